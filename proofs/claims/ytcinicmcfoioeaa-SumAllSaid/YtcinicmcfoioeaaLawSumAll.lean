/- The walk of the law SumAll. -/
import Derived.Test.YtcinicmcfoioeaaSumB
namespace Go.Proofs.Ytcinicmcfoioeaa
open Go.RowKit

theorem sumAll_walk (w : World) (A : Option Addr) (l : List UInt8) (n cap : Nat) (hn : l.length = n) (hcap : n ≤ cap) (hm : cap ≤ maxLen) (hA : Bs w w.heap.size A l) (s : Int) (hs : 0 ≤ s ∧ s ≤ 4294967295) :
    Calls Try.prog 3 #[.slice A n cap, .int .u32 s] w fun e w' => e = .returned (.bool true) ∧ Below w.heap.size w w' := by
  unfold maxLen at hm
  have HN := Lib.hid hn
  clear hn
  have hT := hA.take 5000
  have hl : (l.take 5000).length ≤ 140737488351232 := by simp; omega
  generalize hl' : l.take 5000 = t at *
  go_enter Try.func3, Try.ntmps3
  go_wp2_with fail
  refine (shown12_any _).mono ?_
  rintro e w1 ⟨rfl, b1⟩
  go_wp2_with fail
  refine (short12_any A l n cap _ HN.out hcap hm).mono ?_
  rintro e w2 ⟨rfl, rfl⟩
  rw [hl']
  have t1 := hT.step b1
  go_wp2_with fail
  refine (rsum_any A t _ cap _ rfl t1 hl).mono ?_
  rintro e w2 ⟨rfl, b2⟩
  have t2 := t1.step b2
  have c2 := chain b1 b2
  go_wp2_with fail
  refine (sum_any A t _ cap _ rfl t2 hl).mono ?_
  rintro e w3 ⟨rfl, b3⟩
  have t3 := t2.step b3
  have c3 := chain c2 b3
  go_wp2_with fail
  refine (go_any s A t _ cap _ rfl hs.1 (by omega) t3 hl).mono ?_
  rintro e w4 ⟨rfl, b4⟩
  have t4 := t3.step b4
  have c4 := chain c3 b4
  go_wp2_with fail
  refine (rgo_any s A t _ cap _ rfl hs.1 (by omega) t4 hl).mono ?_
  rintro e w5 ⟨rfl, b5⟩
  have t5 := t4.step b5
  have c5 := chain c4 b5
  go_wp2_with fail
  refine (is_any A t _ cap _ _ rfl t5 hl).mono ?_
  rintro e w6 ⟨rfl, b6⟩
  have t6 := t5.step b6
  have c6 := chain c5 b6
  rw [beq_self_eq_true]
  go_wp2_with fail
  refine (is_any A t _ cap _ _ rfl t6 hl).mono ?_
  rintro e w7 ⟨rfl, b7⟩
  have c7 := chain c6 b7
  go_wp2
  go_ret
  exact ⟨rfl, c7⟩
end Go.Proofs.Ytcinicmcfoioeaa
