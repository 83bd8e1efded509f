/- Plain facts on numbers laid down: to and fro, few bytes near zero. -/
import Derived.Test.YtaaibgbblehngaaVintT
namespace Go.Proofs.Ytaaibgbblehngaa

theorem zag_zig (k : Int) : zag (zig k) = k := by
  unfold zag zig
  split <;> split <;> omega
theorem zig_zag (n : Nat) : zig (zag n) = n := by
  unfold zag zig
  split <;> split <;> omega
theorem zig_lt (k : Int) (h : -9223372036854775808 ≤ k ∧ k ≤ 9223372036854775807) : zig k < 18446744073709551616 := by
  unfold zig
  split <;> omega
theorem zag_bd (n : Nat) (h : n < 18446744073709551616) : -9223372036854775808 ≤ zag n ∧ zag n ≤ 9223372036854775807 := by
  unfold zag
  split <;> omega
theorem zig_one (k : Int) (h : -9223372036854775808 ≤ k ∧ k ≤ 9223372036854775807) : (vsize (zig k) = 1) ↔ (-64 ≤ k ∧ k < 64) := by
  rw [vsize_one _ (zig_lt k h)]
  unfold zig
  split <;> omega
end Go.Proofs.Ytaaibgbblehngaa
