/- The walk of the laws' helper shown (chapter 01). -/
import Derived.Test.YtaaibgbblehngaaVintT
import Derived.Test.YtaaibgbblehngaaReg
namespace Go.Proofs.Ytaaibgbblehngaa
open Go.RowKit

theorem v300 : vput 300 = [172, 2] := by decide +kernel
theorem vs300 : vsize 300 = 2 := by decide +kernel
theorem vt128a : vtake [128, 0] = (0, 0, 3) := by decide +kernel
theorem vt128b : vtake [128] = (0, 0, 2) := by decide +kernel
theorem zig2 : zig (-2) = 3 := by decide +kernel

theorem take_a (A : Option Addr) (c : Nat) (w : World) (hA : Bs w w.heap.size A [128, 0]) :
    Calls Try.prog 14 #[.slice A 2 c] w fun e w' => e = .returned (.tuple #[.int .u64 0, .int .i64 0, .int .i64 3]) ∧ w = w' := by
  have h := vtake_any A [128, 0] 2 c w rfl (by decide) hA
  rw [vt128a] at h
  exact h
theorem take_b (A : Option Addr) (c : Nat) (w : World) (hA : Bs w w.heap.size A [128]) :
    Calls Try.prog 14 #[.slice A 1 c] w fun e w' => e = .returned (.tuple #[.int .u64 0, .int .i64 0, .int .i64 2]) ∧ w = w' := by
  have h := vtake_any A [128] 1 c w rfl (by decide) hA
  rw [vt128b] at h
  exact h
theorem put_300 (w : World) : Calls Try.prog 15 #[.int .u64 300] w fun e w' => ∃ A c, e = .returned (.slice A 2 c) ∧ Own w' w.heap.size A 2 c [172, 2] ∧ Below w.heap.size w w' := by
  have h := vput_any 300 w (Lib.hid (by decide))
  refine h.mono ?_
  rintro e w' ⟨A, c, rfl, o, b⟩
  rw [vs300, v300] at o
  exact ⟨A, c, by rw [vs300], o, b⟩
theorem zig_2 (w : World) : Calls Try.prog 17 #[.int .i64 (-2)] w fun e w' => e = .returned (.int .u64 3) ∧ w = w' := by
  have h := zig_any (-2) w (by omega)
  rw [zig2] at h
  exact h


set_option maxRecDepth 10000 in
theorem shown01_any (w : World) :
    Calls Try.prog 13 #[] w fun e w' => e = .returned (.bool true) ∧ Below w.heap.size w w' := by
  have r0 := (Below.refl w.heap.size w).alloc (Nat.le_refl _) (.cells #[.int .u8 128, .int .u8 0] 5)
  have s0 : Bs (w.alloc (.cells #[.int .u8 128, .int .u8 0] 5)) (w.heap.size + 1) (some ⟨w.heap.size, 0, none⟩) [128, 0] := Bs.new (Nat.lt_succ_self _) rfl
  have r1 := r0.alloc r0.size (.cells #[.int .u8 128] 5)
  have s1 : Bs ((w.alloc (.cells #[.int .u8 128, .int .u8 0] 5)).alloc (.cells #[.int .u8 128] 5)) ((w.alloc (.cells #[.int .u8 128, .int .u8 0] 5)).heap.size + 1) (some ⟨(w.alloc (.cells #[.int .u8 128, .int .u8 0] 5)).heap.size, 0, none⟩) [128] := Bs.new (Nat.lt_succ_self _) rfl
  rw [World.size_alloc] at s1
  go_enter Try.func13, Try.ntmps13
  go_wp2_with fail
  refine (take_a _ _ _ (s0.more (by simp))).mono ?_
  rintro e w1 ⟨rfl, rfl⟩
  go_wp2_with fail
  refine (take_b _ _ _ (s1.more (by simp))).mono ?_
  rintro e w1 ⟨rfl, rfl⟩
  clear s0 s1 r0
  go_wp2_with fail
  generalize (w.alloc (.cells #[.int .u8 128, .int .u8 0] 5)).alloc (.cells #[.int .u8 128] 5) = X at *
  refine wp_region_inv (by kernel_rfl) [.bs [172, 2], .val (.string (strOf [172, 2])), .bs [172, 2], .val (.string (strOf [172, 2])), .val (.bool true), .val (.bool true), .val (.int .i64 3), .val (.bool true), .val (.bool true), .val (.bool true), .val (.int .i64 2), .val (.bool true), .val (.bool true), .val (.bool true), .val (.int .u64 3), .val (.bool true), .val (.bool true), .val (.bool true)] (T := ?T) (by kernel_rfl) (by kernel_rfl) ?hT ?hask ?hend
  case hT =>
    intro vs
    simp only [fill, Act.put, List.setIfInBounds_toArray, List.set_cons_succ, List.set_cons_zero, Nat.reduceAdd]
    exact rfl
  case hask =>
    refine askI_cons (fun vs w1 hb hd => ?_) ?_
    · clear hd
      go_simp
      refine gives_enter ((put_300 _).mono ?_)
      rintro e w2 ⟨A, c, rfl, o2, b2⟩
      exact ⟨_, rfl, b2, A, 2, c, rfl, rfl, o2.cap.1, o2.cap.2, o2.bs⟩
    refine askI_cons (fun vs w1 hb hd => ?_) ?_
    · obtain ⟨A, n, c, h1, h2, h3, h4, h5⟩ := hd.1
      have h6 := conv (c := c) h2 h5
      clear hd h2 h3 h4 h5
      go_simp
      exact gives_pure rfl
    refine askI_cons (fun vs w1 hb hd => ?_) ?_
    · clear hd
      go_simp
      exact gives_value ((Below.refl _ _).alloc (Nat.le_refl _) _) ⟨_, _, _, rfl, rfl, by omega, by decide, Bs.new (by simp) rfl⟩
    refine askI_cons (fun vs w1 hb hd => ?_) ?_
    · obtain ⟨A, n, c, h1, h2, h3, h4, h5⟩ := hd.1
      have h6 := conv (c := c) h2 h5
      clear hd h2 h3 h4 h5
      go_simp
      exact gives_pure rfl
    iterate 10 (refine askI_cons (fun vs w1 hb hd => ?_) ?_; (focus (simp only [DepI, Region.binds, SlI, List.getD_cons_zero, List.getD_cons_succ, Sl.val, Sl.bs, and_true] at hd; go_simp; exact gives_pure rfl)))
    refine askI_cons (fun vs w1 hb hd => ?_) ?_
    · simp only [DepI, Region.binds, SlI, List.getD_cons_zero, List.getD_cons_succ, Sl.val, Sl.bs, and_true] at hd
      go_simp
      refine gives_enter ((zig_2 _).mono ?_)
      rintro e w2 ⟨rfl, rfl⟩
      exact ⟨_, rfl, Below.refl _ _, rfl⟩
    iterate 3 (refine askI_cons (fun vs w1 hb hd => ?_) ?_; (focus (simp only [DepI, Region.binds, SlI, List.getD_cons_zero, List.getD_cons_succ, Sl.val, Sl.bs, and_true] at hd; go_simp; exact gives_pure rfl)))
    exact askI_nil
  case hend =>
    intro vs w1 hb hd
    simp only [AllI, Nat.reduceAdd, SlI, List.getD_cons_zero, List.getD_cons_succ, Sl.val, Sl.bs, and_true] at hd
    have hd17 := hd.2.2.2.2.2.2.2.2.2.2.2.2.2.2.2.2.2
    clear hd
    have hb' := r1.trans (hb.mono r1.size)
    go_wp2
    go_ret
    exact ⟨by simp [hd17], hb'⟩
end Go.Proofs.Ytaaibgbblehngaa
