/- The walk of the law FrameOnce. -/
import Derived.Test.YtcinicmcfoioeaaFrameP
import Derived.Test.YtcinicmcfoioeaaFrameD
namespace Go.Proofs.Ytcinicmcfoioeaa
open Go.RowKit

theorem flatP_take_le (L : List (List UInt8)) (k : Nat) : (flatP (L.take k)).length ≤ (flatP L).length := by
  conv => rhs; rw [← List.take_append_drop k L, flatP_append, List.length_append]
  omega

set_option maxHeartbeats 1600000 in
theorem frameOnce_walk (w : World) (A : Option Addr) (l : List UInt8) (n cap : Nat) (hn : l.length = n) (hcap : n ≤ cap) (hm : cap ≤ maxLen) (hA : Bs w w.heap.size A l) :
    Calls Try.prog 11 #[.slice A n cap] w fun e w' => e = .returned (.bool true) ∧ Below w.heap.size w w' := by
  unfold maxLen at hm
  have HN := Lib.hid hn
  have hT := hA.take 9000
  have hl : (l.take 9000).length ≤ 9000 := by simp; omega
  have hl3 : (l.take 9000).length ≤ cap := by simp; omega
  clear hn
  generalize hl' : l.take 9000 = t at *
  go_enter Try.func11, Try.ntmps11
  go_wp2_with fail
  refine (shown13_any _).mono ?_
  rintro e w1 ⟨rfl, b1⟩
  go_wp2_with fail
  refine (short13_any A l n cap _ HN.out hcap hm).mono ?_
  rintro e w2 ⟨rfl, rfl⟩
  rw [hl']
  clear hl'
  have r3 := hT.step b1
  have e3 := (Below.refl w1.heap.size w1).alloc (Nat.le_refl _) (.cells #[] 5)
  have h3 := Ob.empty (w := w1) (base := w1.heap.size) (E := 5) (Nat.le_refl _)
  have r3' := r3.below e3
  go_wp2_with (at_builtin; refine app rfl (.tmp 19) (.tmp 20) rfl rfl h3 rfl rfl r3' (by omega) e3.size ?_; intro C1 k1 w4 o4 g4 _; simp only [Nat.zero_add, List.nil_append] at o4; have b4 : Below w1.heap.size w1 w4 := Own.grown h3 e3 g4)
  have o4c := o4.cap
  refine (take_any C1 t _ k1 _ rfl o4c.1 (by omega) o4.bs).mono ?_
  rintro e w5 ⟨U1, u1, rfl, o5, b5⟩
  have c5 := chain (chain b1 b4) b5
  have r5 := (r3.step b4).step b5
  clear o4 o4c g4 b4 r3' h3 e3 r3 b5
  have hsp := fall_spec _ t (Nat.le_refl _)
  have hbd := fall_bd _ t (Nat.le_refl _)
  have HS := Lib.hid hsp
  clear hsp
  by_cases hz : (ftake t).2.2 = 0
  · have hz2 := ftake_size t hz
    have hz3 := ftake_put t hz
    have HP := Lib.hid hz3.1
    have hfp := fp_ok _ hz3.2
    have hz3' := Lib.hid hz3.2
    have U5 := o5.bs
    rw [hz]
    have HLL : (0 < (fall t).1.length) := (by
      rcases Nat.eq_zero_or_pos (fall t).1.length with h | h
      · exact absurd hz (HS.out.2.2.1 (List.eq_nil_of_length_eq_zero h))
      · exact h)
    clear hz o5 hz3
    go_wp2_with fail
    refine (put_any U1 (ftake t).1 _ u1 _ rfl (by omega) U5).mono ?_
    rintro e w6 ⟨P1, p1, rfl, o6, b6⟩
    have r6 := r5.step b6
    have c6 := chain c5 b6
    have o6b := o6.bs
    rw [hfp, fput_length] at o6 ⊢
    rw [hfp] at o6b
    have hcv1 : ∀ k, (convert 22 9 (.slice P1 ((ftake t).1.length + 6) p1)).run Try.prog (w6.drewN k) = .ok (.string (strOf (fput (ftake t).1))) (w6.drewN k) := fun k => conv (fput_length _) (o6b.drewN k)
    have hm21 : (ftake t).1.length + 6 = (ftake t).2.1 := hz2.2.2.1
    rw [hm21] at hcv1 ⊢
    have hcv2 : ∀ k, (convert 22 9 (.slice A (ftake t).2.1 cap)).run Try.prog (w6.drewN k) = .ok (.string (strOf (fput (ftake t).1))) (w6.drewN k) := fun k => by
      have h := (r6.take (ftake t).2.1).drewN k
      rw [HP.out] at h
      exact conv (by rw [fput_length, hm21]) h
    generalize (ftake t).2.1 = m at *
    generalize fput (ftake t).1 = q at *
    clear hm21 o6b U5 hfp HP
    have hb3 : decide (t.length < m) = false := by simp; omega
    have hmc : m ≤ cap := by omega
    go_wp2_with fail
    go_quiet (fail)
    have cW := below_drewN c6 nq
    have rW : Bs (w6.drewN nq) (w6.drewN nq).heap.size A t := r6.drewN nq
    clear hcv1 hcv2 r6 c6 o6
    obtain ⟨W, hW0⟩ : ∃ W, W = w6.drewN nq := ⟨_, rfl⟩
    rw [← hW0] at cW rW ⊢
    clear hW0
    have eW := (Below.refl W.heap.size W).alloc (Nat.le_refl _) (.cells #[] 5)
    have hW := Ob.empty (w := W) (base := W.heap.size) (E := 5) (Nat.le_refl _)
    have rW' := rW.below eW
    go_wp2_with (at_builtin; refine app rfl (.tmp 57) (.tmp 58) rfl rfl hW rfl rfl rW' (by omega) eW.size ?_; intro C2 k2 w7 o7 g7 _; simp only [Nat.zero_add, List.nil_append] at o7; have b7 : Below W.heap.size W w7 := Own.grown hW eW g7)
    have o7c := o7.cap
    refine (all_any C2 t _ k2 _ rfl o7c.1 o7c.2 (by omega) o7.bs).mono ?_
    rintro e w8 ⟨L1, y1, rfl, o8, b8⟩
    have c8 := chain (chain cW b7) b8
    have r8 := (rW.step b7).step b8
    have L8 := o8.rr
    clear o7 o7c g7 b7 rW' hW eW rW cW b8 o8
    have hmn := hbd.1
    have hmn2 := hbd.2
    have HS1 := Lib.hid HS.out.1
    have HS2 := Lib.hid HS.out.2.1
    clear hbd HS
    generalize (fall t).1 = L at *
    generalize (fall t).2 = m2 at *
    go_wp2_with fail
    go_loopw [11, 12] (fun o i wr => ∃ (k : Nat) (Ao : Option Addr) (no co : Nat), i = .int .i64 k ∧ k ≤ L.length ∧ o = .slice Ao no co ∧ Own wr w8.heap.size Ao no co (flatP (L.take k)) ∧ Below w8.heap.size w8 wr) (fun _ i _ => L.length - (intOf i).toNat)
    case atStart => exact ⟨0, some ⟨w8.heap.size, 0, none⟩, 0, 0, rfl, by omega, rfl, Ob.empty (Nat.le_refl _), (Below.refl _ _).alloc (Nat.le_refl _) _⟩
    case round =>
      obtain ⟨k, Ao, no, co, rfl, hk, rfl, oo, bb⟩ := hrel
      by_cases hlt : k < L.length
      · have Lr := L8.below bb
        obtain ⟨g, off, rfl, hg, hc⟩ := L8 (by omega)
        obtain ⟨Ai, ci, x1, x2, x2', x3⟩ := hc k hlt
        have x1' := (bb.cell (p := ⟨g, off + k, none⟩) hg).trans x1
        have x3' := (x3.below bb).more bb.size
        have hmem := HS2.out (L.getD k []) (by rw [List.getD_eq_getElem?_getD, List.getElem?_eq_getElem hlt]; exact List.getElem_mem hlt)
        have hfp := fp_ok _ hmem
        have hsn := Lib.hid (show flatP (L.take (k + 1)) = flatP (L.take k) ++ fput (L.getD k []) by rw [List.take_succ_eq_append_getElem hlt, flatP_snoc, List.getD_eq_getElem?_getD, List.getElem?_eq_getElem hlt]; rfl)
        clear hc Lr x1 x3
        generalize L.getD k [] = x at *
        go_wp2_with fail
        refine (put_any Ai x _ ci _ rfl (by omega) x3').mono ?_
        rintro e w9 ⟨P9, p9, rfl, o9, b9⟩
        have o9b := o9.bs
        rw [hfp, fput_length] at o9 ⊢
        rw [hfp] at o9b
        have hno : no ≤ 9000 := by
          have h1 := flatP_take_le L k
          have h2 := congrArg List.length HS1.out
          rw [List.length_take] at h2
          have h3 := oo.1
          omega
        have oo9 := oo.step b9
        have bb9 := bb.trans (b9.mono bb.size)
        go_wp2_with (at_builtin; refine app rfl (.tmp 80) (.tmp 81) rfl rfl oo9 rfl (fput_length x) o9b (by omega) bb9.size ?_; intro Aa ca wa oa ga _; have ba : Below w8.heap.size w8 wa := Own.grown oo9 bb9 ga)
        go_roundw
        case rel => exact ⟨k + 1, Aa, no + (x.length + 6), ca, by go_num, by omega, rfl, by rw [hsn.out]; exact oa, ba⟩
        case measure => simp [intOf]; omega
      · obtain rfl : k = L.length := by omega
        rw [List.take_length] at oo
        have hno : (flatP L).length = m2 := by rw [← HS1.out, List.length_take]; omega
        have hno2 : no = m2 := by rw [← oo.1, hno]
        subst hno2
        have rr := ((r8.below bb).more bb.size).take no
        rw [HS1.out] at rr
        have hcv1 : ∀ k, (convert 22 9 (.slice A no cap)).run Try.prog (wr.drewN k) = .ok (.string (strOf (flatP L))) (wr.drewN k) := fun k => conv hno (rr.drewN k)
        have hcv2 : ∀ k, (convert 22 9 (.slice Ao no co)).run Try.prog (wr.drewN k) = .ok (.string (strOf (flatP L))) (wr.drewN k) := fun k => conv hno (oo.bs.drewN k)
        have hb5 : decide (no ≤ t.length) = true := by simp; omega
        have hmc2 : no ≤ cap := by omega
        clear hno L8 r8 rr oo HS1 HS2
        have c9 := chain c8 bb
        have hfin : decide (0 < L.length) = true := by simp; omega
        go_wp2_with fail
        go_quiet (fail)
        go_wp2_with fail
        go_ret
        exact ⟨rfl, below_drewN c9 _⟩
  · have hf := fall_stop t hz
    have he := ftake_err t
    rcases he with he | he
    · exact absurd he hz
    rcases he with he | he
    all_goals
      rw [he]
      clear hz he o5 HS hbd
      have eW := (Below.refl w5.heap.size w5).alloc (Nat.le_refl _) (.cells #[] 5)
      have hW := Ob.empty (w := w5) (base := w5.heap.size) (E := 5) (Nat.le_refl _)
      have rW' := r5.below eW
      go_wp2_with (at_builtin; refine app rfl (.tmp 57) (.tmp 58) rfl rfl hW rfl rfl rW' (by omega) eW.size ?_; intro C2 k2 w7 o7 g7 _; simp only [Nat.zero_add, List.nil_append] at o7; have b7 : Below w5.heap.size w5 w7 := Own.grown hW eW g7)
      have o7c := o7.cap
      refine (all_any C2 t _ k2 _ rfl o7c.1 o7c.2 (by omega) o7.bs).mono ?_
      rintro e w8 ⟨L1, y1, rfl, o8, b8⟩
      have c8 := chain (chain c5 b7) b8
      have r8 := ((r5.step b7).step b8).take 0
      rw [hf]
      rw [List.take_zero] at r8
      clear o7 o7c g7 b7 rW' hW eW b8 o8 hf
      have c9 := c8.alloc c8.size (.cells #[] 5)
      have r9 := r8.below ((Below.refl w8.heap.size w8).alloc (Nat.le_refl _) (.cells #[] 5))
      have hcv1 : ∀ k, (convert 22 9 (.slice A 0 cap)).run Try.prog ((w8.alloc (.cells #[] 5)).drewN k) = .ok (.string (strOf [])) ((w8.alloc (.cells #[] 5)).drewN k) := fun k => conv rfl (r9.drewN k)
      have hcv2 : ∀ k, (convert 22 9 (.slice (some ⟨w8.heap.size, 0, none⟩) 0 0)).run Try.prog ((w8.alloc (.cells #[] 5)).drewN k) = .ok (.string (strOf [])) ((w8.alloc (.cells #[] 5)).drewN k) := fun k => conv (B := 0) rfl Bs.nil
      go_wp2_with fail
      refine wp_loop_rounds 1 ?_
      rw [rounds_succ]
      go_wp2_with fail
      go_quiet (fail)
      go_wp2_with fail
      go_ret
      exact ⟨rfl, below_drewN c9 _⟩
end Go.Proofs.Ytcinicmcfoioeaa
