/- The walks of varint.Size, Put, Zig, Zag. -/
import Derived.Test.YtaaibgbblehngaaApp
import Derived.Test.YtaaibgbblehngaaVintB
namespace Go.Proofs.Ytaaibgbblehngaa
open Go.RowKit

set_option maxRecDepth 10000 in
theorem size_any (n : Nat) (w : World) (h : Hid (n < 18446744073709551616)) :
    Calls Try.prog 16 #[.int .u64 n] w fun e w' => e = .returned (.int .i64 (vsize n : Nat)) ∧ w = w' := by
  go_enter Try.func16, Try.ntmps16
  go_wp2
  go_loop [0, 3] (fun x s => ∃ m k : Nat, x = .int .u64 m ∧ s = .int .i64 k ∧ Hid (m < 18446744073709551616) ∧ 1 ≤ k ∧ k ≤ 10 ∧ k - 1 + vsize m = vsize n) (fun x _ => (intOf x).toNat)
  case atStart => exact ⟨n, 1, rfl, rfl, h, by omega, by omega, by omega⟩
  case round =>
    obtain ⟨m, k, rfl, rfl, hm, hk, hk2, hs⟩ := hrel
    have hle := vsize_le n
    have hmi : (m : Int) ≤ 18446744073709551615 := by have := hm.out; omega
    by_cases hlt : m < 128
    · have HV := Lib.hid (show k = vsize n by rw [vsize_small m hlt] at hs; omega)
      clear hs hle
      go_wp2
      go_ret
      exact ⟨by rw [← HV.out]; rfl, rfl⟩
    · have hb := vsize_big m hlt hm.out
      have HM := Lib.hid (show m / 128 < 18446744073709551616 by have := hm.out; omega)
      have hp := vsize_pos (m / 128)
      have HV := Lib.hid (show k + 1 - 1 + vsize (m / 128) = vsize n by omega)
      have hk9 : k ≤ 9 := by omega
      clear hs hle hb hp
      go_wp2
      go_round
      case rel => exact ⟨m / 128, k + 1, by go_num, by go_num, HM, by omega, by omega, HV.out⟩
      case measure => simp [intOf]; omega

def zig (k : Int) : Nat := if k < 0 then (-2 * k - 1).toNat else (2 * k).toNat
def zag (n : Nat) : Int := if n % 2 = 1 then -1 - ((n / 2 : Nat) : Int) else ((n / 2 : Nat) : Int)

theorem zig_any (k : Int) (w : World) (h : -9223372036854775808 ≤ k ∧ k ≤ 9223372036854775807) :
    Calls Try.prog 17 #[.int .i64 k] w fun e w' => e = .returned (.int .u64 (zig k : Nat)) ∧ w = w' := by
  by_cases hk : k < 0
  · have HZ := Lib.hid (show (zig k : Int) = 2 * (-1 - k) + 1 by unfold zig; rw [if_pos hk]; omega)
    go_enter Try.func17, Try.ntmps17
    go_wp2
    go_ret
    exact ⟨by rw [HZ.out]; rfl, rfl⟩
  · have HZ := Lib.hid (show (zig k : Int) = 2 * k by unfold zig; rw [if_neg hk]; omega)
    go_enter Try.func17, Try.ntmps17
    go_wp2
    go_ret
    exact ⟨by rw [HZ.out]; rfl, rfl⟩

theorem zag_any (n : Nat) (w : World) (h : Hid (n < 18446744073709551616)) :
    Calls Try.prog 27 #[.int .u64 n] w fun e w' => e = .returned (.int .i64 (zag n)) ∧ w = w' := by
  have hmi : (n : Int) ≤ 18446744073709551615 := by have := h.out; omega
  by_cases hn : n % 2 = 1
  · have HZ := Lib.hid (show zag n = -1 - ((n / 2 : Nat) : Int) by unfold zag; rw [if_pos hn])
    have hm : ((n : Int) % 2 == 1) = true := by rw [beq_iff_eq]; omega
    clear hn
    go_enter Try.func27, Try.ntmps27
    go_wp2
    go_ret
    exact ⟨by rw [HZ.out]; rfl, rfl⟩
  · have HZ := Lib.hid (show zag n = ((n / 2 : Nat) : Int) by unfold zag; rw [if_neg hn])
    have hm : ((n : Int) % 2 == 1) = false := by rw [beq_eq_false_iff_ne]; omega
    clear hn
    go_enter Try.func27, Try.ntmps27
    go_wp2
    go_ret
    exact ⟨by rw [HZ.out]; rfl, rfl⟩
end Go.Proofs.Ytaaibgbblehngaa
