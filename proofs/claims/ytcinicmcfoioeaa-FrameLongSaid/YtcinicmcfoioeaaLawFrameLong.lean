/- The walk of the law FrameLong. -/
import Derived.Test.YtcinicmcfoioeaaFrameC
namespace Go.Proofs.Ytcinicmcfoioeaa
open Go.RowKit

theorem frameLong_walk (w : World) (A : Option Addr) (l : List UInt8) (n cap : Nat) (hn : l.length = n) (hcap : n ≤ cap) (hm : cap ≤ maxLen) (hA : Bs w w.heap.size A l) :
    Calls Try.prog 7 #[.slice A n cap] w fun e w' => e = .returned (.bool true) ∧ Below w.heap.size w w' := by
  unfold maxLen at hm
  have HN := Lib.hid hn
  clear hn
  have hT := hA.take 9000
  have hl : (l.take 9000).length ≤ 9000 := by simp; omega
  generalize hl' : l.take 9000 = t at *
  go_enter Try.func7, Try.ntmps7
  go_wp2_with fail
  refine (shown13_any _).mono ?_
  rintro e w1 ⟨rfl, b1⟩
  go_wp2_with fail
  refine (short13_any A l n cap _ HN.out hcap hm).mono ?_
  rintro e w2 ⟨rfl, rfl⟩
  rw [hl']
  clear hl'
  have s1 := hT.step b1
  obtain ⟨m, hm2⟩ : ∃ m, t.length = m := ⟨_, rfl⟩
  rw [hm2] at hl ⊢
  have HM := Lib.hid hm2
  clear hm2
  go_wp2_with fail
  by_cases hbad : m = 0 ∨ 4096 < m
  · refine (put_bad A m cap _ hbad (by omega)).mono ?_
    rintro e w2 ⟨rfl, rfl⟩
    rcases hbad with rfl | hbad
    · go_wp2_with fail
      go_ret
      exact ⟨rfl, b1⟩
    · have hz : ((m : Int) == 0) = false := by simp; omega
      go_wp2_with fail
      go_ret
      exact ⟨rfl, b1⟩
  · obtain ⟨m1, m2⟩ : 0 < m ∧ m ≤ 4096 := by omega
    clear hbad
    have hz : ((m : Int) == 0) = false := by simp; omega
    refine (put_ok A t m cap _ HM.out m1 m2 s1).mono ?_
    rintro e w2 ⟨A2, c2, rfl, o2, b2⟩
    have c2' := o2.cap
    rw [HM.out] at o2 c2' ⊢
    obtain ⟨g, rfl, hg1, hg2⟩ := o2.at_ (by omega)
    have hp0 : (fput t)[0]? = some (byteOf (m / 256)) := by unfold fput fbody be2; rw [HM.out]; rfl
    have hp1 : (fput t)[1]? = some (byteOf m) := by unfold fput fbody be2; rw [HM.out]; rfl
    have hl0 : 0 < (fput t).length := by rw [fput_length]; omega
    have hl1 : 1 < (fput t).length := by rw [fput_length]; omega
    have k0 := o2.cell 0 hl0
    have k1 := o2.cell 1 hl1
    rw [List.getElem?_eq_getElem hl0] at hp0
    rw [List.getElem?_eq_getElem hl1] at hp1
    rw [Option.some.inj hp0, byteOf_toNat] at k0
    rw [Option.some.inj hp1, byteOf_toNat] at k1
    have hdrop : ((fput t).take (m + 2)).drop 2 = t := by
      have h : fput t = (be2 t.length ++ t) ++ be4 (adler 1 (fbody t)).toNat := rfl
      rw [h, List.take_left' (by rw [List.length_append, be2_length, HM.out]; omega), List.drop_left' (be2_length _)]
    have s3 : Bs w2 w2.heap.size (some ⟨g, 0 + 2, none⟩) t := by
      have := (o2.bs.take (m + 2)).drop 2
      rwa [hdrop] at this
    have hs1 : ∀ k, (convert 22 9 (.slice A m cap)).run Try.prog (w2.drewN k) = .ok (.string (strOf t)) (w2.drewN k) := fun k => conv HM.out ((s1.step b2).drewN k)
    have hs2 : ∀ k, (convert 22 9 (.slice (some ⟨g, 2, none⟩) m (c2 - 2))).run Try.prog (w2.drewN k) = .ok (.string (strOf t)) (w2.drewN k) := fun k => conv HM.out (s3.drewN k)
    clear hp0 hp1 hl0 hl1 hdrop
    have hv : (256 * ((m / 256 % 256 : Nat) : Int) + ((m % 256 : Nat) : Int) == (m : Int)) = true := by rw [beq_iff_eq]; omega
    have p0 : m / 256 % 256 ≤ 255 := by omega
    have p1 : m % 256 ≤ 255 := by omega
    generalize m / 256 % 256 = x0 at *
    generalize m % 256 = x1 at *
    go_wp2_with fail
    go_quiet (fail)
    go_wp2_with fail
    go_ret
    exact ⟨rfl, below_drewN (b1.trans (b2.mono b1.size)) _⟩
end Go.Proofs.Ytcinicmcfoioeaa
