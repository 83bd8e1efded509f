/- The walks of the reference's Put and Take. -/
import Derived.Test.YtcinicmcfoioeaaFrameC
import Derived.Test.YtcinicmcfoioeaaSumB
namespace Go.Proofs.Ytcinicmcfoioeaa
open Go.RowKit

theorem rput_bad (A : Option Addr) (n c : Nat) (w : World) (h : n = 0 ∨ 4096 < n) (hn : n ≤ 9223372036854775807) :
    Calls Try.prog 24 #[.slice A n c] w fun e w' => e = .returned (.tuple #[.slice none 0 0, .int .i64 4]) ∧ w = w' := by
  rcases h with rfl | h
  · go_enter Try.func24, Try.ntmps24
    go_wp2
    go_ret2
    exact ⟨rfl, rfl⟩
  · have h0 : ((n : Int) == 0) = false := by simp; omega
    go_enter Try.func24, Try.ntmps24
    go_wp2
    go_ret2
    exact ⟨rfl, rfl⟩

set_option maxHeartbeats 400000 in
theorem rput_ok (A : Option Addr) (x : List UInt8) (n c : Nat) (w : World) (hn : x.length = n) (h0 : 0 < n) (h1 : n ≤ 4096) (hA : Bs w w.heap.size A x) :
    Calls Try.prog 24 #[.slice A n c] w (PutOk w x) := by
  have HN := Lib.hid hn
  clear hn
  have hz : ((n : Int) == 0) = false := by simp; omega
  have r0 := Below.refl w.heap.size w
  have hb2 := Lib.hid (be2_cells n (by omega))
  go_enter Try.func24, Try.ntmps24
  go_wp2_with (at_builtin; refine app rfl (.tmp 22) (.tmp 23) rfl rfl (Ob.lit (be2_length n) hb2.out rfl (Nat.le_refl _) (by omega)) rfl HN.out (hA.below (r0.alloc (Nat.le_refl _) _)) (by omega) (by simp) ?_; intro A3 c3 w3 o3 g3 _; have b3 : Below w.heap.size w w3 := Own.grown (Ob.lit (be2_length n) hb2.out rfl (Nat.le_refl _) (by omega)) (r0.alloc (Nat.le_refl _) _) g3)
  have hfb : be2 n ++ x = fbody x := by rw [← HN.out]; rfl
  rw [hfb] at o3
  have hfl := Lib.hid (show (fbody x).length = 2 + n by rw [fbody_length, HN.out, Nat.add_comm])
  clear hfb g3
  refine (rsum_any A3 (fbody x) _ c3 _ hfl.out o3.bs (by rw [hfl.out]; omega)).mono ?_
  rintro e w4 ⟨rfl, d4⟩
  have o4 := o3.step d4
  have b4 := b3.trans (d4.mono b3.size)
  have hs := adler_bd 1 (fbody x)
  obtain ⟨q, hq⟩ : ∃ q : Nat, adler 1 (fbody x) = (q : Int) := ⟨_, (Int.toNat_of_nonneg hs.1).symm⟩
  have HQ := Lib.hid hq
  rw [hq]
  have hq2 : q < 4294967296 := by omega
  clear hq hs
  have hb4 := Lib.hid (be4_cells q hq2)
  have hL := Lib.hid (show 2 + n + 4 = x.length + 6 by rw [HN.out]; omega)
  have hfin := Lib.hid (show fbody x ++ be4 q = fput x by unfold fput; rw [HQ.out]; rfl)
  go_wp2_with (at_builtin; refine app rfl (.tmp 27) (.tmp 39) rfl rfl (o4.alloc _) rfl rfl (Bs.new (Nat.lt_succ_self _) hb4.out) (by omega) (Nat.le_trans b4.size (by simp)) ?_; intro A5 c5 w5 o5 g5 _; have b5 : Below w.heap.size w w5 := Own.grown (o4.alloc _) (b4.alloc b4.size _) g5)
  go_ret2
  refine ⟨A5, c5, by rw [← hL.out]; rfl, ?_, b5⟩
  rw [← hL.out, ← hfin.out]
  exact o5

theorem rtake_none (A : Option Addr) (n c : Nat) (w : World) (hn : n < 2) :
    Calls Try.prog 25 #[.slice A n c] w (Took w [] 0 2) := by
  go_enter Try.func25, Try.ntmps25
  go_wp2
  go_ret3
  exact ⟨none, 0, rfl, Ob.nil_ _ _ _, Below.refl _ _⟩

set_option maxHeartbeats 800000 in
theorem rtake_any (A : Option Addr) (b : List UInt8) (n c : Nat) (w : World) (hn : b.length = n) (hcap : n ≤ c) (hm : n ≤ 140737488351232) (hA : Bs w w.heap.size A b) :
    Calls Try.prog 25 #[.slice A n c] w (Took w (ftake b).1 (ftake b).2.1 (ftake b).2.2) := by
  by_cases h2 : n < 2
  · have hf : ftake b = ([], 0, 2) := by unfold ftake; rw [if_pos (by omega)]
    rw [hf]
    exact rtake_none A n c w h2
  have HN := Lib.hid hn
  obtain ⟨g, off, rfl, hg, hc⟩ := id hA (by omega)
  have c0 := hc 0 (by omega)
  have c1 := hc 1 (by omega)
  rw [Nat.add_zero] at c0
  obtain ⟨M, hM⟩ : ∃ M, hd2 b = M := ⟨_, rfl⟩
  have l0 := (b.getD 0 0).toNat_lt
  have l1 := (b.getD 1 0).toNat_lt
  have hor : 256 * ((b.getD 0 0).toNat : Int) + ((b.getD 1 0).toNat : Int) = (M : Int) := by rw [← hM]; unfold hd2; omega
  generalize b.getD 0 0 = x0 at *
  generalize b.getD 1 0 = x1 at *
  have HF := Lib.hid (show ftake b = if M = 0 ∨ 4096 < M then ([], 0, 3) else if n < M + 6 then ([], 0, 2) else if adler 1 (b.take (M + 2)) = (beVal ((b.drop (M + 2)).take 4) : Nat) then ((b.drop 2).take M, M + 6, 0) else ([], 0, 3) by
    unfold ftake; rw [if_neg (by omega), hM, hn])
  have HM := Lib.hid hM
  clear hn hM
  go_enter Try.func25, Try.ntmps25
  go_wp2_with fail
  go_quiet (fail)
  clear hor c0 c1 l0 l1 hc
  by_cases hbad : M = 0 ∨ 4096 < M
  · have HF2 := Lib.hid (show ftake b = ([], 0, 3) by rw [HF.out, if_pos hbad])
    rcases hbad with rfl | hbad
    · go_wp2_with fail
      go_ret3
      rw [HF2.out]
      exact ⟨none, 0, rfl, Ob.nil_ _ _ _, below_drewN (Below.refl _ _) _⟩
    · have hz : ((M : Int) == 0) = false := by simp; omega
      go_wp2_with fail
      go_ret3
      rw [HF2.out]
      exact ⟨none, 0, rfl, Ob.nil_ _ _ _, below_drewN (Below.refl _ _) _⟩
  · obtain ⟨m1, m2⟩ : 0 < M ∧ M ≤ 4096 := by omega
    have hz : ((M : Int) == 0) = false := by simp; omega
    by_cases hs : n < M + 6
    · have HF2 := Lib.hid (show ftake b = ([], 0, 2) by rw [HF.out, if_neg hbad, if_pos hs])
      clear hbad
      go_wp2_with fail
      go_ret3
      rw [HF2.out]
      exact ⟨none, 0, rfl, Ob.nil_ _ _ _, below_drewN (Below.refl _ _) _⟩
    · have HF2 := Lib.hid (show ftake b = if adler 1 (b.take (M + 2)) = (beVal ((b.drop (M + 2)).take 4) : Nat) then ((b.drop 2).take M, M + 6, 0) else ([], 0, 3) by rw [HF.out, if_neg hbad, if_neg hs])
      clear hbad HF
      have b0 : Below w.heap.size w ((w.drewN nq).alloc (.cells #[] 5)) := (below_drewN (Below.refl _ _) nq).alloc (Nat.le_refl _) _
      have hxl : ((b.drop 2).take M).length = M := by have := HN.out; simp; omega
      have HX := Lib.hid hxl
      clear hxl
      have s2 : Bs w w.heap.size (some ⟨g, off + 2, none⟩) ((b.drop 2).take M) := (hA.drop 2).take M
      have he := Ob.empty (w := w.drewN nq) (base := w.heap.size) (E := 5) (Nat.le_refl _)
      go_wp2_with (at_builtin; go_loud (refine app rfl (.tmp 33) (.tmp 37) rfl rfl he rfl HX.out (s2.below b0) (by omega) b0.size ?_); intro A1 c1 w1 o1 g1 _; simp only [Nat.zero_add, List.nil_append] at o1; have b1 : Below w.heap.size w w1 := Own.grown he b0 g1)
      have hiff := Lib.hid (fput_iff b (by rw [HM.out, HN.out]; omega))
      generalize hx : (b.drop 2).take M = x at *
      have hiff2 := hiff.out
      rw [HM.out, hx] at hiff2
      have HI := Lib.hid hiff2
      clear hiff hiff2 hx s2 he g1
      refine (rput_ok A1 x M c1 _ HX.out m1 m2 o1.bs).mono ?_
      rintro e w2 ⟨A2, c2, rfl, o2, d2⟩
      have o1' := o1.step d2
      have b2 : Below w.heap.size w w2 := b1.trans (d2.mono b1.size)
      have s3 : Bs w2 w2.heap.size (some ⟨g, off, none⟩) (b.take (M + 6)) := ((hA.take (M + 6)).below b2).more b2.size
      have hpl : (fput x).length = M + 6 := by rw [fput_length, HX.out]
      have hcv1 : ∀ k, (convert 22 9 (.slice A2 (M + 6) c2)).run Try.prog (w2.drewN k) = .ok (.string (strOf (fput x))) (w2.drewN k) := fun k => conv hpl (o2.bs.drewN k)
      have hcv2 : ∀ k, (convert 22 9 (.slice (some ⟨g, off, none⟩) (M + 6) c)).run Try.prog (w2.drewN k) = .ok (.string (strOf (b.take (M + 6)))) (w2.drewN k) := fun k => conv (by have := HN.out; simp; omega) (s3.drewN k)
      have hse := str_eq (fput x) (b.take (M + 6))
      rw [HX.out] at o2 ⊢
      clear hpl
      go_wp2_with fail
      go_quiet (fail)
      by_cases heq : adler 1 (b.take (M + 2)) = (beVal ((b.drop (M + 2)).take 4) : Nat)
      · have HF3 := Lib.hid (show ftake b = (x, M + 6, 0) by rw [HF2.out, if_pos heq])
        have hdec : (!(fput x == b.take (M + 6))) = false := by rw [Bool.not_eq_false', beq_iff_eq]; exact HI.out.2 heq
        clear heq
        rw [hdec]
        go_wp2
        go_ret3
        rw [HF3.out]
        refine ⟨A1, c1, ?_, ?_, below_drewN b2 _⟩
        · have hN : ((M + 6 : Nat) : Int) = (M : Int) + 6 := by omega
          simp only
          rw [HX.out, hN]
          rfl
        · simp only
          rw [HX.out]
          exact o1'
      · have HF3 := Lib.hid (show ftake b = ([], 0, 3) by rw [HF2.out, if_neg heq])
        have hdec : (!(fput x == b.take (M + 6))) = true := by rw [Bool.not_eq_true', beq_eq_false_iff_ne]; exact fun h => heq (HI.out.1 h)
        clear heq
        rw [hdec]
        go_wp2
        go_ret3
        rw [HF3.out]
        exact ⟨none, 0, rfl, Ob.nil_ _ _ _, below_drewN b2 _⟩
end Go.Proofs.Ytcinicmcfoioeaa
