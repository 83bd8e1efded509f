/- The walks of disk.New, Append, Doom, Up, Sync, Synced, Down. -/
import Derived.Test.YtcgkoojegopfnaaDisk
import Derived.Lib.Hide
namespace Go.Proofs.Ytcgkoojegopfnaa
open Go.RowKit

theorem new_any (w : World) : Calls Try.prog 13 #[] w fun e w' => ∃ g, e = .returned (.pointer (some ⟨g, 0, none⟩)) ∧ Dk w' w.heap.size g none dNew ∧ Below w.heap.size w w' := by
  go_enter Try.func13, Try.ntmps13
  go_wp2_with fail
  go_ret
  exact ⟨w.heap.size, rfl, ⟨Nat.le_refl _, dNew_ok, none, 0, 0, rfl, Blk.new w TD _, Ob.nil_ _ _ _⟩, (Below.refl _ _).alloc (Nat.le_refl _) _⟩

theorem synced_any (base g : Nat) (q : Option Nat) (d : Dsk) (w : World) (hd : Dk w base g q d) :
    Calls Try.prog 19 #[.pointer (some ⟨g, 0, none⟩)] w fun e w' => e = .returned (.int .i64 (d.syn : Nat)) ∧ w = w' := by
  obtain ⟨_, _, A, n, c, _, hb, _⟩ := hd
  have c1 := hb.cell 1
  simp only [dCells, List.getElem?_toArray, List.getElem?_cons_zero, List.getElem?_cons_succ] at c1
  go_enter Try.func19, Try.ntmps19
  go_wp2_with fail
  go_ret
  exact ⟨rfl, rfl⟩

theorem down_any (base g : Nat) (q : Option Nat) (d : Dsk) (w : World) (hd : Dk w base g q d) :
    Calls Try.prog 21 #[.pointer (some ⟨g, 0, none⟩)] w fun e w' => e = .returned (.bool d.down) ∧ w = w' := by
  obtain ⟨_, _, A, n, c, _, hb, _⟩ := hd
  have c2 := hb.cell 2
  simp only [dCells, List.getElem?_toArray, List.getElem?_cons_zero, List.getElem?_cons_succ] at c2
  go_enter Try.func21, Try.ntmps21
  go_wp2_with fail
  go_ret
  exact ⟨rfl, rfl⟩

theorem doom_any (base g : Nat) (q : Option Nat) (d : Dsk) (k : Int) (w : World) (hd : Dk w base g q d) :
    Calls Try.prog 22 #[.pointer (some ⟨g, 0, none⟩), .int .i64 k] w (Does w base g q (dDoom d k) (.tuple #[])) := by
  obtain ⟨hg, hok, A, n, c, hq, hb, ho⟩ := hd
  have c3 := hb.cell 3
  have c4 := hb.cell 4
  have f3 := hb.free 3
  have f4 := hb.free 4
  simp only [dCells, List.getElem?_toArray, List.getElem?_cons_zero, List.getElem?_cons_succ] at c3 c4
  have hb2 := (hb.set 3 (.bool true)).set 4 (.int .i64 k)
  have ho2 := (ho.setD hb 3 (.bool true)).setD (hb.set 3 (.bool true)) 4 (.int .i64 k)
  go_enter Try.func22, Try.ntmps22
  go_wp2_with fail
  go_end0
  exact ⟨q, rfl, ⟨hg, hok.doom k, A, n, c, hq, hb2, ho2⟩, ((Touch.refl w g q).set 3 _).set 4 _, .inl rfl⟩

theorem up_any (base g : Nat) (q : Option Nat) (d : Dsk) (w : World) (hd : Dk w base g q d) :
    Calls Try.prog 17 #[.pointer (some ⟨g, 0, none⟩)] w (Does w base g q (dUp d).1 (.int .i64 (dUp d).2)) := by
  obtain ⟨hg, hok, A, n, c, hq, hb, ho⟩ := hd
  have c2 := hb.cell 2
  have c3 := hb.cell 3
  have c4 := hb.cell 4
  have f2 := hb.free 2
  have f3 := hb.free 3
  have f4 := hb.free 4
  simp only [dCells, List.getElem?_toArray, List.getElem?_cons_zero, List.getElem?_cons_succ] at c2 c3 c4
  cases hdn : d.down
  · have HU := Lib.hid (show dUp d = (d, 31) by unfold dUp; rw [hdn]; rfl)
    rw [hdn] at c2
    have hd' : Dk w base g q d := ⟨hg, hok, A, n, c, hq, hb, ho⟩
    clear hdn
    go_enter Try.func17, Try.ntmps17
    go_wp2_with fail
    go_ret
    exact ⟨q, by rw [HU.out]; rfl, by rw [HU.out]; exact hd', Touch.refl _ _ _, .inl rfl⟩
  · have HU := Lib.hid (show dUp d = ({ d with down := false, doomed := false, keep := 0 }, 0) by unfold dUp; rw [hdn]; rfl)
    rw [hdn] at c2
    have hb2 := ((hb.set 2 (.bool false)).set 3 (.bool false)).set 4 (.int .i64 0)
    have ho2 := ((ho.setD hb 2 (.bool false)).setD (hb.set 2 (.bool false)) 3 (.bool false)).setD ((hb.set 2 (.bool false)).set 3 (.bool false)) 4 (.int .i64 0)
    clear hdn
    go_enter Try.func17, Try.ntmps17
    go_wp2_with fail
    go_ret
    exact ⟨q, by rw [HU.out]; rfl, by rw [HU.out]; exact ⟨hg, hok, A, n, c, hq, hb2, ho2⟩, (((Touch.refl w g q).set 2 _).set 3 _).set 4 _, .inl rfl⟩

set_option maxHeartbeats 800000 in
theorem append_any (base g : Nat) (q : Option Nat) (d : Dsk) (X : Option Addr) (x : List UInt8) (m cx : Nat) (w : World) (hd : Dk w base g q d) (hbase : base ≤ w.heap.size) (hm : x.length = m) (hx : Bs w w.heap.size X x) :
    Calls Try.prog 14 #[.pointer (some ⟨g, 0, none⟩), .slice X m cx] w (Does w base g q (dAppend d x).1 (.int .i64 (dAppend d x).2)) := by
  have hqlt := hd.q_lt
  have hok2 := hd.2.1.append x
  obtain ⟨hg, hok, A, n, c, hq, hb, ho⟩ := id hd
  have hn := ho.1
  have hok1 := hok.1
  have hok64 := hok.2
  have c0 := hb.cell 0
  have c2 := hb.cell 2
  simp only [dCells, List.getElem?_toArray, List.getElem?_cons_zero, List.getElem?_cons_succ] at c0 c2
  cases hdn : d.down
  · rw [hdn] at c2
    by_cases hfull : 65536 < n + m
    · have HU := Lib.hid (show dAppend d x = (d, 20) by unfold dAppend; rw [if_neg (by simp [hdn]), if_pos (by omega)])
      have hgt : 65536 - (n : Int) < (m : Int) := by omega
      have hn64 : n ≤ 65536 := by omega
      clear hdn hn hm
      go_enter Try.func14, Try.ntmps14
      go_wp2_with fail
      go_ret
      exact ⟨q, by rw [HU.out]; rfl, by rw [HU.out]; exact hd, Touch.refl _ _ _, .inl rfl⟩
    · have HU := Lib.hid (show dAppend d x = ({ d with b := d.b ++ x }, 0) by unfold dAppend; rw [if_neg (by simp [hdn]), if_neg (by omega)])
      have hgt : ¬ 65536 - (n : Int) < (m : Int) := by omega
      have hn64 : n ≤ 65536 := by omega
      have HM := Lib.hid hm
      have HQ := Lib.hid hq
      have hgq : some g ≠ (Value.slice A n c).ownBlock := fun e => (hqlt g (by rw [hq, ← e])).2.2 rfl
      clear hdn hn hm hq
      go_enter Try.func14, Try.ntmps14
      go_wp2_with (at_builtin; refine app rfl (.tmp 22) (.tmp 23) rfl rfl ho rfl HM.out hx (by omega) hbase ?_; intro A2 c2' w2 o2 g2 hA2; have hb2 := hb.grown g2 hgq; have d0 := hb2.cell 0; have e0 := hb2.free 0; simp only [dCells, List.getElem?_toArray, List.getElem?_cons_zero] at d0)
      have hb3 := hb2.set 0 (.slice A2 (n + m) c2')
      have ho3 := o2.setD hb2 0 (.slice A2 (n + m) c2')
      go_ret
      refine ⟨(Value.slice A2 (n + m) c2').ownBlock, by rw [HU.out]; rfl, by rw [HU.out] at hok2 ⊢; exact ⟨hg, hok2, A2, n + m, c2', rfl, hb3, ho3⟩, ?_, ?_⟩
      · rw [HQ.out]; exact (Touch.grown g2).set 0 _
      · rcases hA2 with h | h
        · left; rw [HQ.out, h]; cases A <;> rfl
        · right; exact ⟨w.heap.size, by rw [h]; rfl, Nat.le_refl _⟩
  · have HU := Lib.hid (show dAppend d x = (d, 30) by unfold dAppend; rw [if_pos hdn])
    rw [hdn] at c2
    clear hdn hn hm
    go_enter Try.func14, Try.ntmps14
    go_wp2_with fail
    go_ret
    exact ⟨q, by rw [HU.out]; rfl, by rw [HU.out]; exact hd, Touch.refl _ _ _, .inl rfl⟩
end Go.Proofs.Ytcgkoojegopfnaa
