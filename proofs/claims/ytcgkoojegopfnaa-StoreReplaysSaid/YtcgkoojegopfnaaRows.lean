/-
  No cell of these rows narrows 'for every input' (looked for: loops, veiled, ifaces, maps, wideKeys, modest, calm, conditions, laid).
  DERIVED. THE GIVEN ROWS OF THIS SEAT. 9 by the template 'for every input the law returns true; each argument reads behind the call as it read before'; 0 by the template 'total and deterministic' (their statements: YtcgkoojegopfnaaTotals.lean).
  GIVEN WITH THE SEED: the statements are not yours to turn. If you find one false, say at which input.
  Laid BY PROGRAM, IN A SANDBOX (cutbox-rows.mjs): the forced cells as the released guide's own fill.sh prints them over the translation 8a306c1b6c486edb… (all of the seat's roots in one cut). By AI agents, Wed Nov 11 2026. No macro, syntax, notation, axiom, sorry.
-/
import Derived.Test.YtcgkoojegopfnaaChecked
import GoSem.Claim
import GoSem.ClaimJoined
import GoSem.ClaimMapViews
import Derived.JoinedTies
import Derived.KernelRfl
namespace Go.Proofs.Ytcgkoojegopfnaa
/- THE CELL 'sum', in the pinned program and in every row, IS THE sha256 OF THE DUMP (.gsa) THAT YtcgkoojegopfnaaProg.lean LOADS. Nothing in Lean hashes anything: it is a label: what it is worth is what the hold of that sum in a sandbox is worth. -/
noncomputable def Try.pinned : Pinned := { name := "ytcgkoojegopfnaa", sum := "8a306c1b6c486edbc41e2ba3d8d0c7cea289e8cdea3ce5c0d55788653074aa53", checked := Try.checked }
namespace Rows
def none {H : Type} : Left H := { results := [], args := [] }

/-- 'coraclelaw14.DiskTwice': WHATEVER THE INPUT: true; the input reads as it did. -/
def diskTwiceSpec : ChangeSpec := { name := "diskTwice", fn := fun _ => fun
  | [d1, d2, d3] => { results := [.lit (.bool true)], args := [d1, d2, d3] }
  | _ => none }
def diskTwiceRow : OpenClaim := { program := "ytcgkoojegopfnaa", sum := "8a306c1b6c486edbc41e2ba3d8d0c7cea289e8cdea3ce5c0d55788653074aa53", func := "coracle/coraclelaw14.DiskTwice", spec := "diskTwice", apart := false }
def DiskTwiceSaid : Prop := diskTwiceRow.holds Try.pinned (OpenSpec.ofChange diskTwiceSpec)

/-- ITS FALSE NEIGHBOUR: 'it returns false'. Refute it at one input. -/
def diskTwiceWrong : ChangeSpec := { name := "diskTwice", fn := fun _ => fun
  | [d1, d2, d3] => { results := [.lit (.bool false)], args := [d1, d2, d3] }
  | _ => none }
def DiskTwiceWrongFalsely : Prop := diskTwiceRow.holds Try.pinned (OpenSpec.ofChange diskTwiceWrong)

/-- 'coraclelaw14.DiskKeeps': WHATEVER THE INPUT: true; the input reads as it did. -/
def diskKeepsSpec : ChangeSpec := { name := "diskKeeps", fn := fun _ => fun
  | [d] => { results := [.lit (.bool true)], args := [d] }
  | _ => none }
def diskKeepsRow : OpenClaim := { program := "ytcgkoojegopfnaa", sum := "8a306c1b6c486edbc41e2ba3d8d0c7cea289e8cdea3ce5c0d55788653074aa53", func := "coracle/coraclelaw14.DiskKeeps", spec := "diskKeeps", apart := false }
def DiskKeepsSaid : Prop := diskKeepsRow.holds Try.pinned (OpenSpec.ofChange diskKeepsSpec)

/-- ITS FALSE NEIGHBOUR: 'it returns false'. Refute it at one input. -/
def diskKeepsWrong : ChangeSpec := { name := "diskKeeps", fn := fun _ => fun
  | [d] => { results := [.lit (.bool false)], args := [d] }
  | _ => none }
def DiskKeepsWrongFalsely : Prop := diskKeepsRow.holds Try.pinned (OpenSpec.ofChange diskKeepsWrong)

/-- 'coraclelaw14.DiskDown': WHATEVER THE INPUT: true; the input reads as it did. -/
def diskDownSpec : ChangeSpec := { name := "diskDown", fn := fun _ => fun
  | [d1, d2, d3] => { results := [.lit (.bool true)], args := [d1, d2, d3] }
  | _ => none }
def diskDownRow : OpenClaim := { program := "ytcgkoojegopfnaa", sum := "8a306c1b6c486edbc41e2ba3d8d0c7cea289e8cdea3ce5c0d55788653074aa53", func := "coracle/coraclelaw14.DiskDown", spec := "diskDown", apart := false }
def DiskDownSaid : Prop := diskDownRow.holds Try.pinned (OpenSpec.ofChange diskDownSpec)

/-- ITS FALSE NEIGHBOUR: 'it returns false'. Refute it at one input. -/
def diskDownWrong : ChangeSpec := { name := "diskDown", fn := fun _ => fun
  | [d1, d2, d3] => { results := [.lit (.bool false)], args := [d1, d2, d3] }
  | _ => none }
def DiskDownWrongFalsely : Prop := diskDownRow.holds Try.pinned (OpenSpec.ofChange diskDownWrong)

/-- 'coraclelaw14.DiskPlays': WHATEVER THE INPUT: true; the input reads as it did. -/
def diskPlaysSpec : ChangeSpec := { name := "diskPlays", fn := fun _ => fun
  | [d] => { results := [.lit (.bool true)], args := [d] }
  | _ => none }
def diskPlaysRow : OpenClaim := { program := "ytcgkoojegopfnaa", sum := "8a306c1b6c486edbc41e2ba3d8d0c7cea289e8cdea3ce5c0d55788653074aa53", func := "coracle/coraclelaw14.DiskPlays", spec := "diskPlays", apart := false }
def DiskPlaysSaid : Prop := diskPlaysRow.holds Try.pinned (OpenSpec.ofChange diskPlaysSpec)

/-- ITS FALSE NEIGHBOUR: 'it returns false'. Refute it at one input. -/
def diskPlaysWrong : ChangeSpec := { name := "diskPlays", fn := fun _ => fun
  | [d] => { results := [.lit (.bool false)], args := [d] }
  | _ => none }
def DiskPlaysWrongFalsely : Prop := diskPlaysRow.holds Try.pinned (OpenSpec.ofChange diskPlaysWrong)

/-- 'coraclelaw15.StoreCuts': WHATEVER THE INPUT: true; the input reads as it did. -/
def storeCutsSpec : ChangeSpec := { name := "storeCuts", fn := fun _ => fun
  | [d1, d2, d3] => { results := [.lit (.bool true)], args := [d1, d2, d3] }
  | _ => none }
def storeCutsRow : OpenClaim := { program := "ytcgkoojegopfnaa", sum := "8a306c1b6c486edbc41e2ba3d8d0c7cea289e8cdea3ce5c0d55788653074aa53", func := "coracle/coraclelaw15.StoreCuts", spec := "storeCuts", unfollowed := true, recurses := true, apart := false }
def StoreCutsSaid : Prop := storeCutsRow.holds Try.pinned (OpenSpec.ofChange storeCutsSpec)

/-- ITS FALSE NEIGHBOUR: 'it returns false'. Refute it at one input. -/
def storeCutsWrong : ChangeSpec := { name := "storeCuts", fn := fun _ => fun
  | [d1, d2, d3] => { results := [.lit (.bool false)], args := [d1, d2, d3] }
  | _ => none }
def StoreCutsWrongFalsely : Prop := storeCutsRow.holds Try.pinned (OpenSpec.ofChange storeCutsWrong)

/-- 'coraclelaw15.StoreBack': WHATEVER THE INPUT: true; the input reads as it did. -/
def storeBackSpec : ChangeSpec := { name := "storeBack", fn := fun _ => fun
  | [d1, d2] => { results := [.lit (.bool true)], args := [d1, d2] }
  | _ => none }
def storeBackRow : OpenClaim := { program := "ytcgkoojegopfnaa", sum := "8a306c1b6c486edbc41e2ba3d8d0c7cea289e8cdea3ce5c0d55788653074aa53", func := "coracle/coraclelaw15.StoreBack", spec := "storeBack", apart := false }
def StoreBackSaid : Prop := storeBackRow.holds Try.pinned (OpenSpec.ofChange storeBackSpec)

/-- ITS FALSE NEIGHBOUR: 'it returns false'. Refute it at one input. -/
def storeBackWrong : ChangeSpec := { name := "storeBack", fn := fun _ => fun
  | [d1, d2] => { results := [.lit (.bool false)], args := [d1, d2] }
  | _ => none }
def StoreBackWrongFalsely : Prop := storeBackRow.holds Try.pinned (OpenSpec.ofChange storeBackWrong)

/-- 'coraclelaw15.StoreSplit': WHATEVER THE INPUT: true; the input reads as it did. -/
def storeSplitSpec : ChangeSpec := { name := "storeSplit", fn := fun _ => fun
  | [d] => { results := [.lit (.bool true)], args := [d] }
  | _ => none }
def storeSplitRow : OpenClaim := { program := "ytcgkoojegopfnaa", sum := "8a306c1b6c486edbc41e2ba3d8d0c7cea289e8cdea3ce5c0d55788653074aa53", func := "coracle/coraclelaw15.StoreSplit", spec := "storeSplit", unfollowed := true, recurses := true, apart := false }
def StoreSplitSaid : Prop := storeSplitRow.holds Try.pinned (OpenSpec.ofChange storeSplitSpec)

/-- ITS FALSE NEIGHBOUR: 'it returns false'. Refute it at one input. -/
def storeSplitWrong : ChangeSpec := { name := "storeSplit", fn := fun _ => fun
  | [d] => { results := [.lit (.bool false)], args := [d] }
  | _ => none }
def StoreSplitWrongFalsely : Prop := storeSplitRow.holds Try.pinned (OpenSpec.ofChange storeSplitWrong)

/-- 'coraclelaw15.StoreSaves': WHATEVER THE INPUT: true; the input reads as it did. -/
def storeSavesSpec : ChangeSpec := { name := "storeSaves", fn := fun _ => fun
  | [d1, d2] => { results := [.lit (.bool true)], args := [d1, d2] }
  | _ => none }
def storeSavesRow : OpenClaim := { program := "ytcgkoojegopfnaa", sum := "8a306c1b6c486edbc41e2ba3d8d0c7cea289e8cdea3ce5c0d55788653074aa53", func := "coracle/coraclelaw15.StoreSaves", spec := "storeSaves", unfollowed := true, recurses := true, apart := false }
def StoreSavesSaid : Prop := storeSavesRow.holds Try.pinned (OpenSpec.ofChange storeSavesSpec)

/-- ITS FALSE NEIGHBOUR: 'it returns false'. Refute it at one input. -/
def storeSavesWrong : ChangeSpec := { name := "storeSaves", fn := fun _ => fun
  | [d1, d2] => { results := [.lit (.bool false)], args := [d1, d2] }
  | _ => none }
def StoreSavesWrongFalsely : Prop := storeSavesRow.holds Try.pinned (OpenSpec.ofChange storeSavesWrong)

/-- 'coraclelaw15.StoreReplays': WHATEVER THE INPUT: true; the input reads as it did. -/
def storeReplaysSpec : ChangeSpec := { name := "storeReplays", fn := fun _ => fun
  | [d1, d2, d3] => { results := [.lit (.bool true)], args := [d1, d2, d3] }
  | _ => none }
def storeReplaysRow : OpenClaim := { program := "ytcgkoojegopfnaa", sum := "8a306c1b6c486edbc41e2ba3d8d0c7cea289e8cdea3ce5c0d55788653074aa53", func := "coracle/coraclelaw15.StoreReplays", spec := "storeReplays", unfollowed := true, recurses := true, apart := false }
def StoreReplaysSaid : Prop := storeReplaysRow.holds Try.pinned (OpenSpec.ofChange storeReplaysSpec)

/-- ITS FALSE NEIGHBOUR: 'it returns false'. Refute it at one input. -/
def storeReplaysWrong : ChangeSpec := { name := "storeReplays", fn := fun _ => fun
  | [d1, d2, d3] => { results := [.lit (.bool false)], args := [d1, d2, d3] }
  | _ => none }
def StoreReplaysWrongFalsely : Prop := storeReplaysRow.holds Try.pinned (OpenSpec.ofChange storeReplaysWrong)

/- THE SECOND FORM. 'bulk': how many values and letters a reading holds, each counted each time it is reached (what is shared counts as often as it is met; a slice's spare places count too). A statement '..UptoSaid' is the law's where the arguments, and the package variables that the reading takes, are together of bulk at most 1048576: NARROWER than '..Said'. Prove '..Said' where nothing that the law and all that it calls make is longer than what came in: it says more and counts as full. Else prove '..UptoSaid'. A law counts once. -/
mutual
def uptoBulk {H : Type} : DataW H → Nat
  | .lit (.string bytes) => bytes.length + 1
  | .lit _ => 1
  | .nil => 1
  | .ptr d => uptoBulk d + 1
  | .slice elems spare => uptoBulkAll elems + uptoBulkAll spare + 1
  | .agg parts => uptoBulkAll parts + 1
  | .iface _ d => uptoBulk d + 1
  | .map entries => uptoBulkEntries entries + 1
  | .held _ => 1
def uptoBulkAll {H : Type} : List (DataW H) → Nat
  | [] => 0
  | d :: r => uptoBulk d + uptoBulkAll r
def uptoBulkEntries {H : Type} : List (Lit × DataW H) → Nat
  | [] => 0
  | x :: r => uptoBulkEntry x + uptoBulkEntries r
def uptoBulkEntry {H : Type} : Lit × DataW H → Nat
  | (.string bytes, d) => bytes.length + uptoBulk d + 1
  | (_, d) => uptoBulk d + 1
 end
def uptoSmall : (H : Type) → List (DataW H) → Bool := fun _ ds => decide (uptoBulkAll ds ≤ 1048576)
def OpenSpec.upto (s : _root_.Go.ChangeSpec) : _root_.Go.OpenSpec := { _root_.Go.OpenSpec.ofChange s with cond := some uptoSmall }

/-- 'coraclelaw14.DiskTwice', WHERE WHAT IT READS IS OF BULK AT MOST 1048576: true; the input reads as it did. -/
def diskTwiceUptoRow : OpenClaim := { program := "ytcgkoojegopfnaa", sum := "8a306c1b6c486edbc41e2ba3d8d0c7cea289e8cdea3ce5c0d55788653074aa53", func := "coracle/coraclelaw14.DiskTwice", spec := "diskTwice", apart := false, narrowed := true }
def DiskTwiceUptoSaid : Prop := diskTwiceUptoRow.holds Try.pinned (OpenSpec.upto diskTwiceSpec)

/-- 'coraclelaw14.DiskKeeps', WHERE WHAT IT READS IS OF BULK AT MOST 1048576: true; the input reads as it did. -/
def diskKeepsUptoRow : OpenClaim := { program := "ytcgkoojegopfnaa", sum := "8a306c1b6c486edbc41e2ba3d8d0c7cea289e8cdea3ce5c0d55788653074aa53", func := "coracle/coraclelaw14.DiskKeeps", spec := "diskKeeps", apart := false, narrowed := true }
def DiskKeepsUptoSaid : Prop := diskKeepsUptoRow.holds Try.pinned (OpenSpec.upto diskKeepsSpec)

/-- 'coraclelaw14.DiskDown', WHERE WHAT IT READS IS OF BULK AT MOST 1048576: true; the input reads as it did. -/
def diskDownUptoRow : OpenClaim := { program := "ytcgkoojegopfnaa", sum := "8a306c1b6c486edbc41e2ba3d8d0c7cea289e8cdea3ce5c0d55788653074aa53", func := "coracle/coraclelaw14.DiskDown", spec := "diskDown", apart := false, narrowed := true }
def DiskDownUptoSaid : Prop := diskDownUptoRow.holds Try.pinned (OpenSpec.upto diskDownSpec)

/-- 'coraclelaw14.DiskPlays', WHERE WHAT IT READS IS OF BULK AT MOST 1048576: true; the input reads as it did. -/
def diskPlaysUptoRow : OpenClaim := { program := "ytcgkoojegopfnaa", sum := "8a306c1b6c486edbc41e2ba3d8d0c7cea289e8cdea3ce5c0d55788653074aa53", func := "coracle/coraclelaw14.DiskPlays", spec := "diskPlays", apart := false, narrowed := true }
def DiskPlaysUptoSaid : Prop := diskPlaysUptoRow.holds Try.pinned (OpenSpec.upto diskPlaysSpec)

/-- 'coraclelaw15.StoreCuts', WHERE WHAT IT READS IS OF BULK AT MOST 1048576: true; the input reads as it did. -/
def storeCutsUptoRow : OpenClaim := { program := "ytcgkoojegopfnaa", sum := "8a306c1b6c486edbc41e2ba3d8d0c7cea289e8cdea3ce5c0d55788653074aa53", func := "coracle/coraclelaw15.StoreCuts", spec := "storeCuts", unfollowed := true, recurses := true, apart := false, narrowed := true }
def StoreCutsUptoSaid : Prop := storeCutsUptoRow.holds Try.pinned (OpenSpec.upto storeCutsSpec)

/-- 'coraclelaw15.StoreBack', WHERE WHAT IT READS IS OF BULK AT MOST 1048576: true; the input reads as it did. -/
def storeBackUptoRow : OpenClaim := { program := "ytcgkoojegopfnaa", sum := "8a306c1b6c486edbc41e2ba3d8d0c7cea289e8cdea3ce5c0d55788653074aa53", func := "coracle/coraclelaw15.StoreBack", spec := "storeBack", apart := false, narrowed := true }
def StoreBackUptoSaid : Prop := storeBackUptoRow.holds Try.pinned (OpenSpec.upto storeBackSpec)

/-- 'coraclelaw15.StoreSplit', WHERE WHAT IT READS IS OF BULK AT MOST 1048576: true; the input reads as it did. -/
def storeSplitUptoRow : OpenClaim := { program := "ytcgkoojegopfnaa", sum := "8a306c1b6c486edbc41e2ba3d8d0c7cea289e8cdea3ce5c0d55788653074aa53", func := "coracle/coraclelaw15.StoreSplit", spec := "storeSplit", unfollowed := true, recurses := true, apart := false, narrowed := true }
def StoreSplitUptoSaid : Prop := storeSplitUptoRow.holds Try.pinned (OpenSpec.upto storeSplitSpec)

/-- 'coraclelaw15.StoreSaves', WHERE WHAT IT READS IS OF BULK AT MOST 1048576: true; the input reads as it did. -/
def storeSavesUptoRow : OpenClaim := { program := "ytcgkoojegopfnaa", sum := "8a306c1b6c486edbc41e2ba3d8d0c7cea289e8cdea3ce5c0d55788653074aa53", func := "coracle/coraclelaw15.StoreSaves", spec := "storeSaves", unfollowed := true, recurses := true, apart := false, narrowed := true }
def StoreSavesUptoSaid : Prop := storeSavesUptoRow.holds Try.pinned (OpenSpec.upto storeSavesSpec)

/-- 'coraclelaw15.StoreReplays', WHERE WHAT IT READS IS OF BULK AT MOST 1048576: true; the input reads as it did. -/
def storeReplaysUptoRow : OpenClaim := { program := "ytcgkoojegopfnaa", sum := "8a306c1b6c486edbc41e2ba3d8d0c7cea289e8cdea3ce5c0d55788653074aa53", func := "coracle/coraclelaw15.StoreReplays", spec := "storeReplays", unfollowed := true, recurses := true, apart := false, narrowed := true }
def StoreReplaysUptoSaid : Prop := storeReplaysUptoRow.holds Try.pinned (OpenSpec.upto storeReplaysSpec)

end Rows
end Go.Proofs.Ytcgkoojegopfnaa
