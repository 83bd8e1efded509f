/-
  No cell of these rows narrows 'for every input' (looked for: loops, veiled, ifaces, maps, wideKeys, modest, calm, conditions, laid).
  DERIVED. THE GIVEN ROWS OF THIS SEAT. 9 by the template 'for every input the law returns true; each argument reads behind the call as it read before'; 0 by the template 'total and deterministic' (their statements: YtcinicmcfoioeaaTotals.lean).
  GIVEN WITH THE SEED: the statements are not yours to turn. If you find one false, say at which input.
  Laid BY PROGRAM, IN A SANDBOX (cutbox-rows.mjs): the forced cells as the released guide's own fill.sh prints them over the translation c40d6d0e4d835dbc… (all of the seat's roots in one cut). By AI agents, Wed Nov 11 2026. No macro, syntax, notation, axiom, sorry.
-/
import Derived.Test.YtcinicmcfoioeaaChecked
import GoSem.Claim
import GoSem.ClaimJoined
import GoSem.ClaimMapViews
import Derived.JoinedTies
import Derived.KernelRfl
namespace Go.Proofs.Ytcinicmcfoioeaa
/- THE CELL 'sum', in the pinned program and in every row, IS THE sha256 OF THE DUMP (.gsa) THAT YtcinicmcfoioeaaProg.lean LOADS. Nothing in Lean hashes anything: it is a label: what it is worth is what the hold of that sum in a sandbox is worth. -/
noncomputable def Try.pinned : Pinned := { name := "ytcinicmcfoioeaa", sum := "c40d6d0e4d835dbccd4c264160e8c093b8fedb4583067c319fe7fbe3142abadb", checked := Try.checked }
namespace Rows
def none {H : Type} : Left H := { results := [], args := [] }

/-- 'coraclelaw12.SumAll': WHATEVER THE INPUT: true; the input reads as it did. -/
def sumAllSpec : ChangeSpec := { name := "sumAll", fn := fun _ => fun
  | [d1, d2] => { results := [.lit (.bool true)], args := [d1, d2] }
  | _ => none }
def sumAllRow : OpenClaim := { program := "ytcinicmcfoioeaa", sum := "c40d6d0e4d835dbccd4c264160e8c093b8fedb4583067c319fe7fbe3142abadb", func := "coracle/coraclelaw12.SumAll", spec := "sumAll", apart := false }
def SumAllSaid : Prop := sumAllRow.holds Try.pinned (OpenSpec.ofChange sumAllSpec)

/-- ITS FALSE NEIGHBOUR: 'it returns false'. Refute it at one input. -/
def sumAllWrong : ChangeSpec := { name := "sumAll", fn := fun _ => fun
  | [d1, d2] => { results := [.lit (.bool false)], args := [d1, d2] }
  | _ => none }
def SumAllWrongFalsely : Prop := sumAllRow.holds Try.pinned (OpenSpec.ofChange sumAllWrong)

/-- 'coraclelaw12.SumParts': WHATEVER THE INPUT: true; the input reads as it did. -/
def sumPartsSpec : ChangeSpec := { name := "sumParts", fn := fun _ => fun
  | [d1, d2] => { results := [.lit (.bool true)], args := [d1, d2] }
  | _ => none }
def sumPartsRow : OpenClaim := { program := "ytcinicmcfoioeaa", sum := "c40d6d0e4d835dbccd4c264160e8c093b8fedb4583067c319fe7fbe3142abadb", func := "coracle/coraclelaw12.SumParts", spec := "sumParts", apart := false }
def SumPartsSaid : Prop := sumPartsRow.holds Try.pinned (OpenSpec.ofChange sumPartsSpec)

/-- ITS FALSE NEIGHBOUR: 'it returns false'. Refute it at one input. -/
def sumPartsWrong : ChangeSpec := { name := "sumParts", fn := fun _ => fun
  | [d1, d2] => { results := [.lit (.bool false)], args := [d1, d2] }
  | _ => none }
def SumPartsWrongFalsely : Prop := sumPartsRow.holds Try.pinned (OpenSpec.ofChange sumPartsWrong)

/-- 'coraclelaw12.SumTurned': WHATEVER THE INPUT: true; the input reads as it did. -/
def sumTurnedSpec : ChangeSpec := { name := "sumTurned", fn := fun _ => fun
  | [d1, d2, d3] => { results := [.lit (.bool true)], args := [d1, d2, d3] }
  | _ => none }
def sumTurnedRow : OpenClaim := { program := "ytcinicmcfoioeaa", sum := "c40d6d0e4d835dbccd4c264160e8c093b8fedb4583067c319fe7fbe3142abadb", func := "coracle/coraclelaw12.SumTurned", spec := "sumTurned", apart := false }
def SumTurnedSaid : Prop := sumTurnedRow.holds Try.pinned (OpenSpec.ofChange sumTurnedSpec)

/-- ITS FALSE NEIGHBOUR: 'it returns false'. Refute it at one input. -/
def sumTurnedWrong : ChangeSpec := { name := "sumTurned", fn := fun _ => fun
  | [d1, d2, d3] => { results := [.lit (.bool false)], args := [d1, d2, d3] }
  | _ => none }
def SumTurnedWrongFalsely : Prop := sumTurnedRow.holds Try.pinned (OpenSpec.ofChange sumTurnedWrong)

/-- 'coraclelaw12.SumFirst': WHATEVER THE INPUT: true; the input reads as it did. -/
def sumFirstSpec : ChangeSpec := { name := "sumFirst", fn := fun _ => fun
  | [d1, d2, d3] => { results := [.lit (.bool true)], args := [d1, d2, d3] }
  | _ => none }
def sumFirstRow : OpenClaim := { program := "ytcinicmcfoioeaa", sum := "c40d6d0e4d835dbccd4c264160e8c093b8fedb4583067c319fe7fbe3142abadb", func := "coracle/coraclelaw12.SumFirst", spec := "sumFirst", apart := false }
def SumFirstSaid : Prop := sumFirstRow.holds Try.pinned (OpenSpec.ofChange sumFirstSpec)

/-- ITS FALSE NEIGHBOUR: 'it returns false'. Refute it at one input. -/
def sumFirstWrong : ChangeSpec := { name := "sumFirst", fn := fun _ => fun
  | [d1, d2, d3] => { results := [.lit (.bool false)], args := [d1, d2, d3] }
  | _ => none }
def SumFirstWrongFalsely : Prop := sumFirstRow.holds Try.pinned (OpenSpec.ofChange sumFirstWrong)

/-- 'coraclelaw13.FrameLong': WHATEVER THE INPUT: true; the input reads as it did. -/
def frameLongSpec : ChangeSpec := { name := "frameLong", fn := fun _ => fun
  | [d] => { results := [.lit (.bool true)], args := [d] }
  | _ => none }
def frameLongRow : OpenClaim := { program := "ytcinicmcfoioeaa", sum := "c40d6d0e4d835dbccd4c264160e8c093b8fedb4583067c319fe7fbe3142abadb", func := "coracle/coraclelaw13.FrameLong", spec := "frameLong", apart := false }
def FrameLongSaid : Prop := frameLongRow.holds Try.pinned (OpenSpec.ofChange frameLongSpec)

/-- ITS FALSE NEIGHBOUR: 'it returns false'. Refute it at one input. -/
def frameLongWrong : ChangeSpec := { name := "frameLong", fn := fun _ => fun
  | [d] => { results := [.lit (.bool false)], args := [d] }
  | _ => none }
def FrameLongWrongFalsely : Prop := frameLongRow.holds Try.pinned (OpenSpec.ofChange frameLongWrong)

/-- 'coraclelaw13.FrameTurned': WHATEVER THE INPUT: true; the input reads as it did. -/
def frameTurnedSpec : ChangeSpec := { name := "frameTurned", fn := fun _ => fun
  | [d1, d2, d3] => { results := [.lit (.bool true)], args := [d1, d2, d3] }
  | _ => none }
def frameTurnedRow : OpenClaim := { program := "ytcinicmcfoioeaa", sum := "c40d6d0e4d835dbccd4c264160e8c093b8fedb4583067c319fe7fbe3142abadb", func := "coracle/coraclelaw13.FrameTurned", spec := "frameTurned", apart := false }
def FrameTurnedSaid : Prop := frameTurnedRow.holds Try.pinned (OpenSpec.ofChange frameTurnedSpec)

/-- ITS FALSE NEIGHBOUR: 'it returns false'. Refute it at one input. -/
def frameTurnedWrong : ChangeSpec := { name := "frameTurned", fn := fun _ => fun
  | [d1, d2, d3] => { results := [.lit (.bool false)], args := [d1, d2, d3] }
  | _ => none }
def FrameTurnedWrongFalsely : Prop := frameTurnedRow.holds Try.pinned (OpenSpec.ofChange frameTurnedWrong)

/-- 'coraclelaw13.FrameAll': WHATEVER THE INPUT: true; the input reads as it did. -/
def frameAllSpec : ChangeSpec := { name := "frameAll", fn := fun _ => fun
  | [d1, d2] => { results := [.lit (.bool true)], args := [d1, d2] }
  | _ => none }
def frameAllRow : OpenClaim := { program := "ytcinicmcfoioeaa", sum := "c40d6d0e4d835dbccd4c264160e8c093b8fedb4583067c319fe7fbe3142abadb", func := "coracle/coraclelaw13.FrameAll", spec := "frameAll", apart := false }
def FrameAllSaid : Prop := frameAllRow.holds Try.pinned (OpenSpec.ofChange frameAllSpec)

/-- ITS FALSE NEIGHBOUR: 'it returns false'. Refute it at one input. -/
def frameAllWrong : ChangeSpec := { name := "frameAll", fn := fun _ => fun
  | [d1, d2] => { results := [.lit (.bool false)], args := [d1, d2] }
  | _ => none }
def FrameAllWrongFalsely : Prop := frameAllRow.holds Try.pinned (OpenSpec.ofChange frameAllWrong)

/-- 'coraclelaw13.FrameRows': WHATEVER THE INPUT: true; the input reads as it did. -/
def frameRowsSpec : ChangeSpec := { name := "frameRows", fn := fun _ => fun
  | [d1, d2] => { results := [.lit (.bool true)], args := [d1, d2] }
  | _ => none }
def frameRowsRow : OpenClaim := { program := "ytcinicmcfoioeaa", sum := "c40d6d0e4d835dbccd4c264160e8c093b8fedb4583067c319fe7fbe3142abadb", func := "coracle/coraclelaw13.FrameRows", spec := "frameRows", apart := false }
def FrameRowsSaid : Prop := frameRowsRow.holds Try.pinned (OpenSpec.ofChange frameRowsSpec)

/-- ITS FALSE NEIGHBOUR: 'it returns false'. Refute it at one input. -/
def frameRowsWrong : ChangeSpec := { name := "frameRows", fn := fun _ => fun
  | [d1, d2] => { results := [.lit (.bool false)], args := [d1, d2] }
  | _ => none }
def FrameRowsWrongFalsely : Prop := frameRowsRow.holds Try.pinned (OpenSpec.ofChange frameRowsWrong)

/-- 'coraclelaw13.FrameOnce': WHATEVER THE INPUT: true; the input reads as it did. -/
def frameOnceSpec : ChangeSpec := { name := "frameOnce", fn := fun _ => fun
  | [d] => { results := [.lit (.bool true)], args := [d] }
  | _ => none }
def frameOnceRow : OpenClaim := { program := "ytcinicmcfoioeaa", sum := "c40d6d0e4d835dbccd4c264160e8c093b8fedb4583067c319fe7fbe3142abadb", func := "coracle/coraclelaw13.FrameOnce", spec := "frameOnce", apart := false }
def FrameOnceSaid : Prop := frameOnceRow.holds Try.pinned (OpenSpec.ofChange frameOnceSpec)

/-- ITS FALSE NEIGHBOUR: 'it returns false'. Refute it at one input. -/
def frameOnceWrong : ChangeSpec := { name := "frameOnce", fn := fun _ => fun
  | [d] => { results := [.lit (.bool false)], args := [d] }
  | _ => none }
def FrameOnceWrongFalsely : Prop := frameOnceRow.holds Try.pinned (OpenSpec.ofChange frameOnceWrong)

/- THE SECOND FORM. 'bulk': how many values and letters a reading holds, each counted each time it is reached (what is shared counts as often as it is met; a slice's spare places count too). A statement '..UptoSaid' is the law's where the arguments, and the package variables that the reading takes, are together of bulk at most 1048576: NARROWER than '..Said'. Prove '..Said' where nothing that the law and all that it calls make is longer than what came in: it says more and counts as full. Else prove '..UptoSaid'. A law counts once. -/
mutual
def uptoBulk {H : Type} : DataW H → Nat
  | .lit (.string bytes) => bytes.length + 1
  | .lit _ => 1
  | .nil => 1
  | .ptr d => uptoBulk d + 1
  | .slice elems spare => uptoBulkAll elems + uptoBulkAll spare + 1
  | .agg parts => uptoBulkAll parts + 1
  | .iface _ d => uptoBulk d + 1
  | .map entries => uptoBulkEntries entries + 1
  | .held _ => 1
def uptoBulkAll {H : Type} : List (DataW H) → Nat
  | [] => 0
  | d :: r => uptoBulk d + uptoBulkAll r
def uptoBulkEntries {H : Type} : List (Lit × DataW H) → Nat
  | [] => 0
  | x :: r => uptoBulkEntry x + uptoBulkEntries r
def uptoBulkEntry {H : Type} : Lit × DataW H → Nat
  | (.string bytes, d) => bytes.length + uptoBulk d + 1
  | (_, d) => uptoBulk d + 1
 end
def uptoSmall : (H : Type) → List (DataW H) → Bool := fun _ ds => decide (uptoBulkAll ds ≤ 1048576)
def OpenSpec.upto (s : _root_.Go.ChangeSpec) : _root_.Go.OpenSpec := { _root_.Go.OpenSpec.ofChange s with cond := some uptoSmall }

/-- 'coraclelaw12.SumAll', WHERE WHAT IT READS IS OF BULK AT MOST 1048576: true; the input reads as it did. -/
def sumAllUptoRow : OpenClaim := { program := "ytcinicmcfoioeaa", sum := "c40d6d0e4d835dbccd4c264160e8c093b8fedb4583067c319fe7fbe3142abadb", func := "coracle/coraclelaw12.SumAll", spec := "sumAll", apart := false, narrowed := true }
def SumAllUptoSaid : Prop := sumAllUptoRow.holds Try.pinned (OpenSpec.upto sumAllSpec)

/-- 'coraclelaw12.SumParts', WHERE WHAT IT READS IS OF BULK AT MOST 1048576: true; the input reads as it did. -/
def sumPartsUptoRow : OpenClaim := { program := "ytcinicmcfoioeaa", sum := "c40d6d0e4d835dbccd4c264160e8c093b8fedb4583067c319fe7fbe3142abadb", func := "coracle/coraclelaw12.SumParts", spec := "sumParts", apart := false, narrowed := true }
def SumPartsUptoSaid : Prop := sumPartsUptoRow.holds Try.pinned (OpenSpec.upto sumPartsSpec)

/-- 'coraclelaw12.SumTurned', WHERE WHAT IT READS IS OF BULK AT MOST 1048576: true; the input reads as it did. -/
def sumTurnedUptoRow : OpenClaim := { program := "ytcinicmcfoioeaa", sum := "c40d6d0e4d835dbccd4c264160e8c093b8fedb4583067c319fe7fbe3142abadb", func := "coracle/coraclelaw12.SumTurned", spec := "sumTurned", apart := false, narrowed := true }
def SumTurnedUptoSaid : Prop := sumTurnedUptoRow.holds Try.pinned (OpenSpec.upto sumTurnedSpec)

/-- 'coraclelaw12.SumFirst', WHERE WHAT IT READS IS OF BULK AT MOST 1048576: true; the input reads as it did. -/
def sumFirstUptoRow : OpenClaim := { program := "ytcinicmcfoioeaa", sum := "c40d6d0e4d835dbccd4c264160e8c093b8fedb4583067c319fe7fbe3142abadb", func := "coracle/coraclelaw12.SumFirst", spec := "sumFirst", apart := false, narrowed := true }
def SumFirstUptoSaid : Prop := sumFirstUptoRow.holds Try.pinned (OpenSpec.upto sumFirstSpec)

/-- 'coraclelaw13.FrameLong', WHERE WHAT IT READS IS OF BULK AT MOST 1048576: true; the input reads as it did. -/
def frameLongUptoRow : OpenClaim := { program := "ytcinicmcfoioeaa", sum := "c40d6d0e4d835dbccd4c264160e8c093b8fedb4583067c319fe7fbe3142abadb", func := "coracle/coraclelaw13.FrameLong", spec := "frameLong", apart := false, narrowed := true }
def FrameLongUptoSaid : Prop := frameLongUptoRow.holds Try.pinned (OpenSpec.upto frameLongSpec)

/-- 'coraclelaw13.FrameTurned', WHERE WHAT IT READS IS OF BULK AT MOST 1048576: true; the input reads as it did. -/
def frameTurnedUptoRow : OpenClaim := { program := "ytcinicmcfoioeaa", sum := "c40d6d0e4d835dbccd4c264160e8c093b8fedb4583067c319fe7fbe3142abadb", func := "coracle/coraclelaw13.FrameTurned", spec := "frameTurned", apart := false, narrowed := true }
def FrameTurnedUptoSaid : Prop := frameTurnedUptoRow.holds Try.pinned (OpenSpec.upto frameTurnedSpec)

/-- 'coraclelaw13.FrameAll', WHERE WHAT IT READS IS OF BULK AT MOST 1048576: true; the input reads as it did. -/
def frameAllUptoRow : OpenClaim := { program := "ytcinicmcfoioeaa", sum := "c40d6d0e4d835dbccd4c264160e8c093b8fedb4583067c319fe7fbe3142abadb", func := "coracle/coraclelaw13.FrameAll", spec := "frameAll", apart := false, narrowed := true }
def FrameAllUptoSaid : Prop := frameAllUptoRow.holds Try.pinned (OpenSpec.upto frameAllSpec)

/-- 'coraclelaw13.FrameRows', WHERE WHAT IT READS IS OF BULK AT MOST 1048576: true; the input reads as it did. -/
def frameRowsUptoRow : OpenClaim := { program := "ytcinicmcfoioeaa", sum := "c40d6d0e4d835dbccd4c264160e8c093b8fedb4583067c319fe7fbe3142abadb", func := "coracle/coraclelaw13.FrameRows", spec := "frameRows", apart := false, narrowed := true }
def FrameRowsUptoSaid : Prop := frameRowsUptoRow.holds Try.pinned (OpenSpec.upto frameRowsSpec)

/-- 'coraclelaw13.FrameOnce', WHERE WHAT IT READS IS OF BULK AT MOST 1048576: true; the input reads as it did. -/
def frameOnceUptoRow : OpenClaim := { program := "ytcinicmcfoioeaa", sum := "c40d6d0e4d835dbccd4c264160e8c093b8fedb4583067c319fe7fbe3142abadb", func := "coracle/coraclelaw13.FrameOnce", spec := "frameOnce", apart := false, narrowed := true }
def FrameOnceUptoSaid : Prop := frameOnceUptoRow.holds Try.pinned (OpenSpec.upto frameOnceSpec)

end Rows
end Go.Proofs.Ytcinicmcfoioeaa
