/- The walks of disk.Sync, Cut, Bytes. -/
import Derived.Test.YtcgkoojegopfnaaDiskB
namespace Go.Proofs.Ytcgkoojegopfnaa
open Go.RowKit

set_option maxRecDepth 10000 in
set_option maxHeartbeats 800000 in
theorem sync_any (base g : Nat) (q : Option Nat) (d : Dsk) (w : World) (hd : Dk w base g q d) :
    Calls Try.prog 18 #[.pointer (some ⟨g, 0, none⟩)] w (Does w base g q (dSync d).1 (.int .i64 (dSync d).2)) := by
  have hok2 := hd.2.1.sync
  obtain ⟨hg, hok, A, n, c, hq, hb, ho⟩ := id hd
  have hn := ho.1
  have c0 := hb.cell 0
  have c2 := hb.cell 2
  have c3 := hb.cell 3
  have c4 := hb.cell 4
  simp only [dCells, List.getElem?_toArray, List.getElem?_cons_zero, List.getElem?_cons_succ] at c0 c2 c3 c4
  cases hdn : d.down
  · rw [hdn] at c2
    cases hdm : d.doomed
    · rw [hdm] at c3
      have HU := Lib.hid (show dSync d = ({ d with syn := d.b.length }, 0) by unfold dSync; rw [if_neg (by simp [hdn]), if_neg (by simp [hdm])])
      have c1 := hb.cell 1
      have f1 := hb.free 1
      simp only [dCells, List.getElem?_toArray, List.getElem?_cons_zero, List.getElem?_cons_succ] at c1
      have hb2 := hb.set 1 (.int .i64 (n : Int))
      have ho2 := ho.setD hb 1 (.int .i64 (n : Int))
      have hfin : Dk (w.setCell ⟨g, 1, none⟩ (.int .i64 (n : Int))) base g q (dSync d).1 := by
        rw [HU.out] at hok2 ⊢
        exact ⟨hg, hok2, A, n, c, hq, by rw [← hn] at hb2; rw [← hn]; exact hb2, ho2⟩
      clear hdn hdm hn hb2 ho2
      go_enter Try.func18, Try.ntmps18
      go_wp2_with fail
      go_ret
      exact ⟨q, by rw [HU.out]; rfl, hfin, (Touch.refl w g q).set 1 _, .inl rfl⟩
    · rw [hdm] at c3
      have HU := Lib.hid (show dSync d = (dCrash d d.keep, 30) by unfold dSync; rw [if_neg (by simp [hdn]), if_pos hdm])
      clear hdn hdm hn hb ho hok
      go_enter Try.func18, Try.ntmps18
      go_wp2_with fail
      refine (crash_any base g q d d.keep _ hd).mono ?_
      rintro e w2 ⟨q2, rfl, d2, t2, m2⟩
      go_wp2_with fail
      go_ret
      exact ⟨q2, by rw [HU.out]; rfl, by rw [HU.out]; exact d2, t2, m2⟩
  · rw [hdn] at c2
    have HU := Lib.hid (show dSync d = (d, 30) by unfold dSync; rw [if_pos hdn])
    clear hdn hn
    go_enter Try.func18, Try.ntmps18
    go_wp2_with fail
    go_ret
    exact ⟨q, by rw [HU.out]; rfl, by rw [HU.out]; exact hd, Touch.refl _ _ _, .inl rfl⟩

set_option maxRecDepth 10000 in
set_option maxHeartbeats 800000 in
theorem cut_any (base g : Nat) (q : Option Nat) (d : Dsk) (k : Int) (w : World) (hd : Dk w base g q d) :
    Calls Try.prog 23 #[.pointer (some ⟨g, 0, none⟩), .int .i64 k] w (Does w base g q (dCut d k).1 (.int .i64 (dCut d k).2)) := by
  have hok2 := hd.2.1.cut k
  obtain ⟨hg, hok, A, n, c, hq, hb, ho⟩ := id hd
  have hn := ho.1
  have HQ := Lib.hid hq
  clear hq
  have hcap := ho.cap
  unfold maxLen at hcap
  obtain ⟨hc1, hc2⟩ := hcap
  have c0 := hb.cell 0
  have c2 := hb.cell 2
  simp only [dCells, List.getElem?_toArray, List.getElem?_cons_zero, List.getElem?_cons_succ] at c0 c2
  cases hdn : d.down
  · rw [hdn] at c2
    by_cases hbad : k < 0 ∨ (n : Int) < k
    · have HU := Lib.hid (show dCut d k = (d, 1) by unfold dCut; rw [if_neg (by simp [hdn]), if_pos (by rw [hn]; exact hbad)])
      clear hdn hn
      by_cases h0 : k < 0
      · clear hbad
        go_enter Try.func23, Try.ntmps23
        go_wp2_with fail
        go_ret
        exact ⟨q, by rw [HU.out]; rfl, by rw [HU.out]; exact hd, Touch.refl _ _ _, .inl rfl⟩
      · have h1 : (n : Int) < k := by omega
        clear hbad
        go_enter Try.func23, Try.ntmps23
        go_wp2_with fail
        go_ret
        exact ⟨q, by rw [HU.out]; rfl, by rw [HU.out]; exact hd, Touch.refl _ _ _, .inl rfl⟩
    · obtain ⟨m, rfl⟩ := Int.eq_ofNat_of_zero_le (show 0 ≤ k by omega)
      have hmn : m ≤ n := by omega
      have hmc : m ≤ c := by omega
      have HU := Lib.hid (show dCut d (m : Int) = ({ d with b := d.b.take m, syn := m }, 0) by unfold dCut; rw [if_neg (by simp [hdn]), if_neg (by rw [hn]; omega)]; rfl)
      have c1 := hb.cell 1
      have f0 := hb.free 0
      have f1 := hb.free 1
      simp only [dCells, List.getElem?_toArray, List.getElem?_cons_zero, List.getElem?_cons_succ] at c1
      have hb1 := hb.set 0 (.slice A m c)
      have hb2 := hb1.set 1 (.int .i64 (m : Int))
      have ho2 := (((ho.take m hmn).setD hb 0 (.slice A m c)).setD hb1 1 (.int .i64 (m : Int)))
      have hfin : Dk ((w.setCell ⟨g, 0, none⟩ (.slice A m c)).setCell ⟨g, 1, none⟩ (.int .i64 (m : Int))) base g q (dCut d (m : Int)).1 := by
        rw [HU.out] at hok2 ⊢
        exact ⟨hg, hok2, A, m, c, by rw [HQ.out]; cases A <;> rfl, hb2, ho2⟩
      have t1 : decide ((m : Int) < 0) = false := by simp
      have t2 : decide ((n : Int) < (m : Int)) = false := by simp; omega
      clear hdn hn hb1 hb2 ho2 hbad
      go_enter Try.func23, Try.ntmps23
      go_wp2_with fail
      go_ret
      exact ⟨q, by rw [HU.out]; rfl, hfin, ((Touch.refl w g q).set 0 _).set 1 _, .inl rfl⟩
  · rw [hdn] at c2
    have HU := Lib.hid (show dCut d k = (d, 30) by unfold dCut; rw [if_pos hdn])
    clear hdn hn
    go_enter Try.func23, Try.ntmps23
    go_wp2_with fail
    go_ret
    exact ⟨q, by rw [HU.out]; rfl, by rw [HU.out]; exact hd, Touch.refl _ _ _, .inl rfl⟩

def IsBytes (w : World) (l : List UInt8) (e : Ending) (w' : World) : Prop := ∃ A n c, e = .returned (.slice A n c) ∧ Own w' w.heap.size A n c l ∧ Below w.heap.size w w'

end Go.Proofs.Ytcgkoojegopfnaa
