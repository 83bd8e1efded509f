/-
  No cell of these rows narrows 'for every input' (looked for: loops, veiled, ifaces, maps, wideKeys, modest, calm, conditions, laid).
  DERIVED. THE GIVEN ROWS OF THIS SEAT. 10 by the template 'for every input the law returns true; each argument reads behind the call as it read before'; 0 by the template 'total and deterministic' (their statements: YtaaibgbblehngaaTotals.lean).
  GIVEN WITH THE SEED: the statements are not yours to turn. If you find one false, say at which input.
  Laid BY PROGRAM, IN A SANDBOX (cutbox-rows.mjs): the forced cells as the released guide's own fill.sh prints them over the translation d78c7b1100915186… (all of the seat's roots in one cut). By AI agents, Wed Nov 11 2026. No macro, syntax, notation, axiom, sorry.
-/
import Derived.Test.YtaaibgbblehngaaChecked
import GoSem.Claim
import GoSem.ClaimJoined
import GoSem.ClaimMapViews
import Derived.JoinedTies
import Derived.KernelRfl
namespace Go.Proofs.Ytaaibgbblehngaa
/- THE CELL 'sum', in the pinned program and in every row, IS THE sha256 OF THE DUMP (.gsa) THAT YtaaibgbblehngaaProg.lean LOADS. Nothing in Lean hashes anything: it is a label: what it is worth is what the hold of that sum in a sandbox is worth. -/
noncomputable def Try.pinned : Pinned := { name := "ytaaibgbblehngaa", sum := "d78c7b1100915186b0683683f16be6f8b7fd328b21cfe69bfe2f2712512f2da1", checked := Try.checked }
namespace Rows
def none {H : Type} : Left H := { results := [], args := [] }

/-- 'coraclelaw01.VarintOnce': WHATEVER THE INPUT: true; the input reads as it did. -/
def varintOnceSpec : ChangeSpec := { name := "varintOnce", fn := fun _ => fun
  | [d] => { results := [.lit (.bool true)], args := [d] }
  | _ => none }
def varintOnceRow : OpenClaim := { program := "ytaaibgbblehngaa", sum := "d78c7b1100915186b0683683f16be6f8b7fd328b21cfe69bfe2f2712512f2da1", func := "coracle/coraclelaw01.VarintOnce", spec := "varintOnce", apart := false }
def VarintOnceSaid : Prop := varintOnceRow.holds Try.pinned (OpenSpec.ofChange varintOnceSpec)

/-- ITS FALSE NEIGHBOUR: 'it returns false'. Refute it at one input. -/
def varintOnceWrong : ChangeSpec := { name := "varintOnce", fn := fun _ => fun
  | [d] => { results := [.lit (.bool false)], args := [d] }
  | _ => none }
def VarintOnceWrongFalsely : Prop := varintOnceRow.holds Try.pinned (OpenSpec.ofChange varintOnceWrong)

/-- 'coraclelaw01.VarintOrder': WHATEVER THE INPUT: true; the input reads as it did. -/
def varintOrderSpec : ChangeSpec := { name := "varintOrder", fn := fun _ => fun
  | [d1, d2, d3] => { results := [.lit (.bool true)], args := [d1, d2, d3] }
  | _ => none }
def varintOrderRow : OpenClaim := { program := "ytaaibgbblehngaa", sum := "d78c7b1100915186b0683683f16be6f8b7fd328b21cfe69bfe2f2712512f2da1", func := "coracle/coraclelaw01.VarintOrder", spec := "varintOrder", apart := false }
def VarintOrderSaid : Prop := varintOrderRow.holds Try.pinned (OpenSpec.ofChange varintOrderSpec)

/-- ITS FALSE NEIGHBOUR: 'it returns false'. Refute it at one input. -/
def varintOrderWrong : ChangeSpec := { name := "varintOrder", fn := fun _ => fun
  | [d1, d2, d3] => { results := [.lit (.bool false)], args := [d1, d2, d3] }
  | _ => none }
def VarintOrderWrongFalsely : Prop := varintOrderRow.holds Try.pinned (OpenSpec.ofChange varintOrderWrong)

/-- 'coraclelaw01.VarintRow': WHATEVER THE INPUT: true; the input reads as it did. -/
def varintRowSpec : ChangeSpec := { name := "varintRow", fn := fun _ => fun
  | [d1, d2, d3] => { results := [.lit (.bool true)], args := [d1, d2, d3] }
  | _ => none }
def varintRowRow : OpenClaim := { program := "ytaaibgbblehngaa", sum := "d78c7b1100915186b0683683f16be6f8b7fd328b21cfe69bfe2f2712512f2da1", func := "coracle/coraclelaw01.VarintRow", spec := "varintRow", apart := false }
def VarintRowSaid : Prop := varintRowRow.holds Try.pinned (OpenSpec.ofChange varintRowSpec)

/-- ITS FALSE NEIGHBOUR: 'it returns false'. Refute it at one input. -/
def varintRowWrong : ChangeSpec := { name := "varintRow", fn := fun _ => fun
  | [d1, d2, d3] => { results := [.lit (.bool false)], args := [d1, d2, d3] }
  | _ => none }
def VarintRowWrongFalsely : Prop := varintRowRow.holds Try.pinned (OpenSpec.ofChange varintRowWrong)

/-- 'coraclelaw06.RefsGone': WHATEVER THE INPUT: true; the input reads as it did. -/
def refsGoneSpec : ChangeSpec := { name := "refsGone", fn := fun _ => fun
  | [d] => { results := [.lit (.bool true)], args := [d] }
  | _ => none }
def refsGoneRow : OpenClaim := { program := "ytaaibgbblehngaa", sum := "d78c7b1100915186b0683683f16be6f8b7fd328b21cfe69bfe2f2712512f2da1", func := "coracle/coraclelaw06.RefsGone", spec := "refsGone", unfollowed := true, recurses := true, apart := false }
def RefsGoneSaid : Prop := refsGoneRow.holds Try.pinned (OpenSpec.ofChange refsGoneSpec)

/-- ITS FALSE NEIGHBOUR: 'it returns false'. Refute it at one input. -/
def refsGoneWrong : ChangeSpec := { name := "refsGone", fn := fun _ => fun
  | [d] => { results := [.lit (.bool false)], args := [d] }
  | _ => none }
def RefsGoneWrongFalsely : Prop := refsGoneRow.holds Try.pinned (OpenSpec.ofChange refsGoneWrong)

/-- 'coraclelaw01.VarintAll': WHATEVER THE INPUT: true; the input reads as it did. -/
def varintAllSpec : ChangeSpec := { name := "varintAll", fn := fun _ => fun
  | [d1, d2, d3] => { results := [.lit (.bool true)], args := [d1, d2, d3] }
  | _ => none }
def varintAllRow : OpenClaim := { program := "ytaaibgbblehngaa", sum := "d78c7b1100915186b0683683f16be6f8b7fd328b21cfe69bfe2f2712512f2da1", func := "coracle/coraclelaw01.VarintAll", spec := "varintAll", apart := false }
def VarintAllSaid : Prop := varintAllRow.holds Try.pinned (OpenSpec.ofChange varintAllSpec)

/-- ITS FALSE NEIGHBOUR: 'it returns false'. Refute it at one input. -/
def varintAllWrong : ChangeSpec := { name := "varintAll", fn := fun _ => fun
  | [d1, d2, d3] => { results := [.lit (.bool false)], args := [d1, d2, d3] }
  | _ => none }
def VarintAllWrongFalsely : Prop := varintAllRow.holds Try.pinned (OpenSpec.ofChange varintAllWrong)

/-- 'coraclelaw01.VarintBack': WHATEVER THE INPUT: true; the input reads as it did. -/
def varintBackSpec : ChangeSpec := { name := "varintBack", fn := fun _ => fun
  | [d1, d2, d3] => { results := [.lit (.bool true)], args := [d1, d2, d3] }
  | _ => none }
def varintBackRow : OpenClaim := { program := "ytaaibgbblehngaa", sum := "d78c7b1100915186b0683683f16be6f8b7fd328b21cfe69bfe2f2712512f2da1", func := "coracle/coraclelaw01.VarintBack", spec := "varintBack", apart := false }
def VarintBackSaid : Prop := varintBackRow.holds Try.pinned (OpenSpec.ofChange varintBackSpec)

/-- ITS FALSE NEIGHBOUR: 'it returns false'. Refute it at one input. -/
def varintBackWrong : ChangeSpec := { name := "varintBack", fn := fun _ => fun
  | [d1, d2, d3] => { results := [.lit (.bool false)], args := [d1, d2, d3] }
  | _ => none }
def VarintBackWrongFalsely : Prop := varintBackRow.holds Try.pinned (OpenSpec.ofChange varintBackWrong)

/-- 'coraclelaw06.RefsFreed': WHATEVER THE INPUT: true; the input reads as it did. -/
def refsFreedSpec : ChangeSpec := { name := "refsFreed", fn := fun _ => fun
  | [d1, d2] => { results := [.lit (.bool true)], args := [d1, d2] }
  | _ => none }
def refsFreedRow : OpenClaim := { program := "ytaaibgbblehngaa", sum := "d78c7b1100915186b0683683f16be6f8b7fd328b21cfe69bfe2f2712512f2da1", func := "coracle/coraclelaw06.RefsFreed", spec := "refsFreed", unfollowed := true, recurses := true, apart := false }
def RefsFreedSaid : Prop := refsFreedRow.holds Try.pinned (OpenSpec.ofChange refsFreedSpec)

/-- ITS FALSE NEIGHBOUR: 'it returns false'. Refute it at one input. -/
def refsFreedWrong : ChangeSpec := { name := "refsFreed", fn := fun _ => fun
  | [d1, d2] => { results := [.lit (.bool false)], args := [d1, d2] }
  | _ => none }
def RefsFreedWrongFalsely : Prop := refsFreedRow.holds Try.pinned (OpenSpec.ofChange refsFreedWrong)

/-- 'coraclelaw06.RefsAll': WHATEVER THE INPUT: true; the input reads as it did. -/
def refsAllSpec : ChangeSpec := { name := "refsAll", fn := fun _ => fun
  | [d1, d2, d3] => { results := [.lit (.bool true)], args := [d1, d2, d3] }
  | _ => none }
def refsAllRow : OpenClaim := { program := "ytaaibgbblehngaa", sum := "d78c7b1100915186b0683683f16be6f8b7fd328b21cfe69bfe2f2712512f2da1", func := "coracle/coraclelaw06.RefsAll", spec := "refsAll", unfollowed := true, recurses := true, apart := false }
def RefsAllSaid : Prop := refsAllRow.holds Try.pinned (OpenSpec.ofChange refsAllSpec)

/-- ITS FALSE NEIGHBOUR: 'it returns false'. Refute it at one input. -/
def refsAllWrong : ChangeSpec := { name := "refsAll", fn := fun _ => fun
  | [d1, d2, d3] => { results := [.lit (.bool false)], args := [d1, d2, d3] }
  | _ => none }
def RefsAllWrongFalsely : Prop := refsAllRow.holds Try.pinned (OpenSpec.ofChange refsAllWrong)

/-- 'coraclelaw06.RefsAdds': WHATEVER THE INPUT: true; the input reads as it did. -/
def refsAddsSpec : ChangeSpec := { name := "refsAdds", fn := fun _ => fun
  | [d1, d2, d3] => { results := [.lit (.bool true)], args := [d1, d2, d3] }
  | _ => none }
def refsAddsRow : OpenClaim := { program := "ytaaibgbblehngaa", sum := "d78c7b1100915186b0683683f16be6f8b7fd328b21cfe69bfe2f2712512f2da1", func := "coracle/coraclelaw06.RefsAdds", spec := "refsAdds", unfollowed := true, recurses := true, apart := false }
def RefsAddsSaid : Prop := refsAddsRow.holds Try.pinned (OpenSpec.ofChange refsAddsSpec)

/-- ITS FALSE NEIGHBOUR: 'it returns false'. Refute it at one input. -/
def refsAddsWrong : ChangeSpec := { name := "refsAdds", fn := fun _ => fun
  | [d1, d2, d3] => { results := [.lit (.bool false)], args := [d1, d2, d3] }
  | _ => none }
def RefsAddsWrongFalsely : Prop := refsAddsRow.holds Try.pinned (OpenSpec.ofChange refsAddsWrong)

/-- 'coraclelaw06.RefsBounds': WHATEVER THE INPUT: true; the input reads as it did. -/
def refsBoundsSpec : ChangeSpec := { name := "refsBounds", fn := fun _ => fun
  | [d] => { results := [.lit (.bool true)], args := [d] }
  | _ => none }
def refsBoundsRow : OpenClaim := { program := "ytaaibgbblehngaa", sum := "d78c7b1100915186b0683683f16be6f8b7fd328b21cfe69bfe2f2712512f2da1", func := "coracle/coraclelaw06.RefsBounds", spec := "refsBounds", unfollowed := true, recurses := true, apart := false }
def RefsBoundsSaid : Prop := refsBoundsRow.holds Try.pinned (OpenSpec.ofChange refsBoundsSpec)

/-- ITS FALSE NEIGHBOUR: 'it returns false'. Refute it at one input. -/
def refsBoundsWrong : ChangeSpec := { name := "refsBounds", fn := fun _ => fun
  | [d] => { results := [.lit (.bool false)], args := [d] }
  | _ => none }
def RefsBoundsWrongFalsely : Prop := refsBoundsRow.holds Try.pinned (OpenSpec.ofChange refsBoundsWrong)

/- THE SECOND FORM. 'bulk': how many values and letters a reading holds, each counted each time it is reached (what is shared counts as often as it is met; a slice's spare places count too). A statement '..UptoSaid' is the law's where the arguments, and the package variables that the reading takes, are together of bulk at most 1048576: NARROWER than '..Said'. Prove '..Said' where nothing that the law and all that it calls make is longer than what came in: it says more and counts as full. Else prove '..UptoSaid'. A law counts once. -/
mutual
def uptoBulk {H : Type} : DataW H → Nat
  | .lit (.string bytes) => bytes.length + 1
  | .lit _ => 1
  | .nil => 1
  | .ptr d => uptoBulk d + 1
  | .slice elems spare => uptoBulkAll elems + uptoBulkAll spare + 1
  | .agg parts => uptoBulkAll parts + 1
  | .iface _ d => uptoBulk d + 1
  | .map entries => uptoBulkEntries entries + 1
  | .held _ => 1
def uptoBulkAll {H : Type} : List (DataW H) → Nat
  | [] => 0
  | d :: r => uptoBulk d + uptoBulkAll r
def uptoBulkEntries {H : Type} : List (Lit × DataW H) → Nat
  | [] => 0
  | x :: r => uptoBulkEntry x + uptoBulkEntries r
def uptoBulkEntry {H : Type} : Lit × DataW H → Nat
  | (.string bytes, d) => bytes.length + uptoBulk d + 1
  | (_, d) => uptoBulk d + 1
 end
def uptoSmall : (H : Type) → List (DataW H) → Bool := fun _ ds => decide (uptoBulkAll ds ≤ 1048576)
def OpenSpec.upto (s : _root_.Go.ChangeSpec) : _root_.Go.OpenSpec := { _root_.Go.OpenSpec.ofChange s with cond := some uptoSmall }

/-- 'coraclelaw01.VarintOnce', WHERE WHAT IT READS IS OF BULK AT MOST 1048576: true; the input reads as it did. -/
def varintOnceUptoRow : OpenClaim := { program := "ytaaibgbblehngaa", sum := "d78c7b1100915186b0683683f16be6f8b7fd328b21cfe69bfe2f2712512f2da1", func := "coracle/coraclelaw01.VarintOnce", spec := "varintOnce", apart := false, narrowed := true }
def VarintOnceUptoSaid : Prop := varintOnceUptoRow.holds Try.pinned (OpenSpec.upto varintOnceSpec)

/-- 'coraclelaw01.VarintOrder', WHERE WHAT IT READS IS OF BULK AT MOST 1048576: true; the input reads as it did. -/
def varintOrderUptoRow : OpenClaim := { program := "ytaaibgbblehngaa", sum := "d78c7b1100915186b0683683f16be6f8b7fd328b21cfe69bfe2f2712512f2da1", func := "coracle/coraclelaw01.VarintOrder", spec := "varintOrder", apart := false, narrowed := true }
def VarintOrderUptoSaid : Prop := varintOrderUptoRow.holds Try.pinned (OpenSpec.upto varintOrderSpec)

/-- 'coraclelaw01.VarintRow', WHERE WHAT IT READS IS OF BULK AT MOST 1048576: true; the input reads as it did. -/
def varintRowUptoRow : OpenClaim := { program := "ytaaibgbblehngaa", sum := "d78c7b1100915186b0683683f16be6f8b7fd328b21cfe69bfe2f2712512f2da1", func := "coracle/coraclelaw01.VarintRow", spec := "varintRow", apart := false, narrowed := true }
def VarintRowUptoSaid : Prop := varintRowUptoRow.holds Try.pinned (OpenSpec.upto varintRowSpec)

/-- 'coraclelaw06.RefsGone', WHERE WHAT IT READS IS OF BULK AT MOST 1048576: true; the input reads as it did. -/
def refsGoneUptoRow : OpenClaim := { program := "ytaaibgbblehngaa", sum := "d78c7b1100915186b0683683f16be6f8b7fd328b21cfe69bfe2f2712512f2da1", func := "coracle/coraclelaw06.RefsGone", spec := "refsGone", unfollowed := true, recurses := true, apart := false, narrowed := true }
def RefsGoneUptoSaid : Prop := refsGoneUptoRow.holds Try.pinned (OpenSpec.upto refsGoneSpec)

/-- 'coraclelaw01.VarintAll', WHERE WHAT IT READS IS OF BULK AT MOST 1048576: true; the input reads as it did. -/
def varintAllUptoRow : OpenClaim := { program := "ytaaibgbblehngaa", sum := "d78c7b1100915186b0683683f16be6f8b7fd328b21cfe69bfe2f2712512f2da1", func := "coracle/coraclelaw01.VarintAll", spec := "varintAll", apart := false, narrowed := true }
def VarintAllUptoSaid : Prop := varintAllUptoRow.holds Try.pinned (OpenSpec.upto varintAllSpec)

/-- 'coraclelaw01.VarintBack', WHERE WHAT IT READS IS OF BULK AT MOST 1048576: true; the input reads as it did. -/
def varintBackUptoRow : OpenClaim := { program := "ytaaibgbblehngaa", sum := "d78c7b1100915186b0683683f16be6f8b7fd328b21cfe69bfe2f2712512f2da1", func := "coracle/coraclelaw01.VarintBack", spec := "varintBack", apart := false, narrowed := true }
def VarintBackUptoSaid : Prop := varintBackUptoRow.holds Try.pinned (OpenSpec.upto varintBackSpec)

/-- 'coraclelaw06.RefsFreed', WHERE WHAT IT READS IS OF BULK AT MOST 1048576: true; the input reads as it did. -/
def refsFreedUptoRow : OpenClaim := { program := "ytaaibgbblehngaa", sum := "d78c7b1100915186b0683683f16be6f8b7fd328b21cfe69bfe2f2712512f2da1", func := "coracle/coraclelaw06.RefsFreed", spec := "refsFreed", unfollowed := true, recurses := true, apart := false, narrowed := true }
def RefsFreedUptoSaid : Prop := refsFreedUptoRow.holds Try.pinned (OpenSpec.upto refsFreedSpec)

/-- 'coraclelaw06.RefsAll', WHERE WHAT IT READS IS OF BULK AT MOST 1048576: true; the input reads as it did. -/
def refsAllUptoRow : OpenClaim := { program := "ytaaibgbblehngaa", sum := "d78c7b1100915186b0683683f16be6f8b7fd328b21cfe69bfe2f2712512f2da1", func := "coracle/coraclelaw06.RefsAll", spec := "refsAll", unfollowed := true, recurses := true, apart := false, narrowed := true }
def RefsAllUptoSaid : Prop := refsAllUptoRow.holds Try.pinned (OpenSpec.upto refsAllSpec)

/-- 'coraclelaw06.RefsAdds', WHERE WHAT IT READS IS OF BULK AT MOST 1048576: true; the input reads as it did. -/
def refsAddsUptoRow : OpenClaim := { program := "ytaaibgbblehngaa", sum := "d78c7b1100915186b0683683f16be6f8b7fd328b21cfe69bfe2f2712512f2da1", func := "coracle/coraclelaw06.RefsAdds", spec := "refsAdds", unfollowed := true, recurses := true, apart := false, narrowed := true }
def RefsAddsUptoSaid : Prop := refsAddsUptoRow.holds Try.pinned (OpenSpec.upto refsAddsSpec)

/-- 'coraclelaw06.RefsBounds', WHERE WHAT IT READS IS OF BULK AT MOST 1048576: true; the input reads as it did. -/
def refsBoundsUptoRow : OpenClaim := { program := "ytaaibgbblehngaa", sum := "d78c7b1100915186b0683683f16be6f8b7fd328b21cfe69bfe2f2712512f2da1", func := "coracle/coraclelaw06.RefsBounds", spec := "refsBounds", unfollowed := true, recurses := true, apart := false, narrowed := true }
def RefsBoundsUptoSaid : Prop := refsBoundsUptoRow.holds Try.pinned (OpenSpec.upto refsBoundsSpec)

end Rows
end Go.Proofs.Ytaaibgbblehngaa
