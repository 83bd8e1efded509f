/- The walks of the reference's Put, Size, Zig, Zag. -/
import Derived.Test.YtaaibgbblehngaaVintE
namespace Go.Proofs.Ytaaibgbblehngaa
open Go.RowKit

/-- After some rounds: what is laid down so far, and what is left. -/
def VAt (n m : Nat) (l : List UInt8) : Prop := vput n = l ++ vput m ∧ m < 18446744073709551616 ∧ l.length + 1 ≤ 10

theorem VAt.next {n m : Nat} {l : List UInt8} (h : VAt n m l) (hm : ¬ m < 128) : VAt n (m / 128) (l ++ [byteN (m % 128 + 128)]) := by
  obtain ⟨h1, h2, h3⟩ := h
  have hb := vput_big m hm h2
  refine ⟨by rw [h1, hb, List.append_assoc]; rfl, by omega, ?_⟩
  have hs := vsize_le n
  unfold vsize at hs
  have hp := vput_ne (m / 128)
  rw [h1, hb, List.length_append, List.length_cons] at hs
  rw [List.length_append, List.length_singleton]
  omega

set_option maxRecDepth 10000 in
set_option maxHeartbeats 400000 in
theorem rput_any (n : Nat) (w : World) (h : Hid (n < 18446744073709551616)) :
    Calls Try.prog 24 #[.int .u64 n] w (PutV w n) := by
  go_enter Try.func24, Try.ntmps24
  go_wp2_with fail
  go_loopw [0, 3] (fun x b wr => ∃ (m k : Nat) (A : Option Addr) (c : Nat) (l : List UInt8), x = .int .u64 m ∧ b = .slice A k c ∧ k ≤ 9 ∧ Hid (VAt n m l) ∧ Own wr w.heap.size A k c l ∧ Below w.heap.size w wr) (fun x _ _ => (intOf x).toNat)
  case atStart => exact ⟨n, 0, some ⟨w.heap.size, 0, none⟩, 0, [], rfl, rfl, by omega, Lib.hid ⟨rfl, h.out, by decide⟩, Ob.empty (Nat.le_refl _), (Below.refl _ _).alloc (Nat.le_refl _) _⟩
  case round =>
    obtain ⟨m, k, A, c, l, rfl, rfl, hk, hv, oo, hb⟩ := hrel
    have hmi : (m : Int) ≤ 18446744073709551615 := by have := hv.out.2.1; omega
    have hkl := oo.1
    by_cases hlt : m < 128
    · have hcell : (#[Value.int .u8 (m : Int)] : Array Value).toList.take [byteN m].length = [byteN m].map bv := by
        simp [bv, byteN_toNat]; omega
      have HC := Lib.hid hcell
      have hfin := Lib.hid (show vput n = l ++ [byteN m] by rw [hv.out.1, vput_small m hlt])
      have hsz := Lib.hid (show k + 1 = vsize n by unfold vsize; rw [hv.out.1, vput_small m hlt, List.length_append, hkl]; rfl)
      clear hcell hkl
      go_wp2_with (at_builtin; refine app rfl (.tmp 16) (.tmp 19) rfl rfl (oo.alloc _) rfl rfl (Bs.new (Nat.lt_succ_self _) HC.out) (by omega) (Nat.le_trans hb.size (by simp)) ?_; intro A2 c2 w2 o2 g2 _; have b2 : Below w.heap.size w w2 := Own.grown (oo.alloc _) (hb.alloc hb.size _) g2)
      go_ret
      refine ⟨A2, c2, by rw [← hsz.out]; rfl, ?_, b2⟩
      rw [← hsz.out, hfin.out]
      exact o2
    · have hcell : (#[Value.int .u8 ((m : Int) % 128 + 128)] : Array Value).toList.take [byteN (m % 128 + 128)].length = [byteN (m % 128 + 128)].map bv := by
        simp [bv, byteN_toNat]; omega
      have HC := Lib.hid hcell
      have hnx := hv.out.next hlt
      have hk8 : k ≤ 8 := by have := hnx.2.2; rw [List.length_append, hkl] at this; simp at this; omega
      have HX := Lib.hid hnx
      clear hcell hkl hnx
      go_wp2_with (at_builtin; refine app rfl (.tmp 7) (.tmp 12) rfl rfl (oo.alloc _) rfl rfl (Bs.new (Nat.lt_succ_self _) HC.out) (by omega) (Nat.le_trans hb.size (by simp)) ?_; intro A2 c2 w2 o2 g2 _; have b2 : Below w.heap.size w w2 := Own.grown (oo.alloc _) (hb.alloc hb.size _) g2)
      go_roundw
      case rel => exact ⟨m / 128, k + 1, A2, c2, _, by go_num, rfl, by omega, HX, o2, b2⟩
      case measure => simp [intOf]; omega

theorem rsize_any (n : Nat) (w : World) (h : Hid (n < 18446744073709551616)) :
    Calls Try.prog 25 #[.int .u64 n] w fun e w' => e = .returned (.int .i64 (vsize n : Nat)) ∧ Below w.heap.size w w' := by
  go_enter Try.func25, Try.ntmps25
  go_wp2_with fail
  refine (rput_any n _ h).mono ?_
  rintro e w1 ⟨A, c, rfl, o1, b1⟩
  go_wp2
  go_ret
  exact ⟨rfl, b1⟩

theorem rzig_any (k : Int) (w : World) (h : -9223372036854775808 ≤ k ∧ k ≤ 9223372036854775807) :
    Calls Try.prog 26 #[.int .i64 k] w fun e w' => e = .returned (.int .u64 (zig k : Nat)) ∧ w = w' := by
  by_cases hk : k < 0
  · have HZ := Lib.hid (show (zig k : Int) = 2 * -(k + 1) + 1 by unfold zig; rw [if_pos hk]; omega)
    go_enter Try.func26, Try.ntmps26
    go_wp2
    go_ret
    exact ⟨by rw [HZ.out]; rfl, rfl⟩
  · have HZ := Lib.hid (show (zig k : Int) = 2 * k by unfold zig; rw [if_neg hk]; omega)
    go_enter Try.func26, Try.ntmps26
    go_wp2
    go_ret
    exact ⟨by rw [HZ.out]; rfl, rfl⟩

theorem rzag_any (n : Nat) (w : World) (h : Hid (n < 18446744073709551616)) :
    Calls Try.prog 28 #[.int .u64 n] w fun e w' => e = .returned (.int .i64 (zag n)) ∧ w = w' := by
  have hmi : (n : Int) ≤ 18446744073709551615 := by have := h.out; omega
  by_cases hn : n % 2 = 1
  · have HZ := Lib.hid (show zag n = -((n / 2 : Nat) : Int) - 1 by unfold zag; rw [if_pos hn]; omega)
    have hm : ((n : Int) % 2 == 1) = true := by rw [beq_iff_eq]; omega
    clear hn
    go_enter Try.func28, Try.ntmps28
    go_wp2
    go_ret
    exact ⟨by rw [HZ.out]; rfl, rfl⟩
  · have HZ := Lib.hid (show zag n = ((n / 2 : Nat) : Int) by unfold zag; rw [if_neg hn])
    have hm : ((n : Int) % 2 == 1) = false := by rw [beq_eq_false_iff_ne]; omega
    clear hn
    go_enter Try.func28, Try.ntmps28
    go_wp2
    go_ret
    exact ⟨by rw [HZ.out]; rfl, rfl⟩
end Go.Proofs.Ytaaibgbblehngaa
