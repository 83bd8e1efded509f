/- The walk of the law VarintOrder. -/
import Derived.Test.YtaaibgbblehngaaVintS
import Derived.Test.YtaaibgbblehngaaVintV
import Derived.Deep.RegionWith
namespace Go.Proofs.Ytaaibgbblehngaa
open Go.RowKit

/-- After k rounds: what is left of a number, how many bytes it has so far. -/
def OrdAt (h m k : Nat) : Prop := m < 18446744073709551616 ∧ 1 ≤ k ∧ k ≤ 10 ∧ (if m = 0 then k = vsize h else k + vsize m = vsize h)

theorem OrdAt.start (h : Nat) (hh : h < 18446744073709551616) : OrdAt h (h / 128) 1 := by
  refine ⟨by omega, by omega, by omega, ?_⟩
  by_cases h1 : h < 128
  · rw [if_pos (by omega), vsize_small h h1]
  · rw [if_neg (by omega), vsize_big h h1 hh]; omega
theorem OrdAt.next {h m k : Nat} (a : OrdAt h m k) (hm : m ≠ 0) : OrdAt h (m / 128) (k + 1) := by
  obtain ⟨a1, a2, a3, a4⟩ := a
  rw [if_neg hm] at a4
  have hp := vsize_pos m
  have hl := vsize_le h
  refine ⟨by omega, by omega, by omega, ?_⟩
  by_cases h1 : m < 128
  · rw [if_pos (by omega)]; rw [vsize_small m h1] at a4; exact a4
  · rw [if_neg (by omega)]; rw [vsize_big m h1 a1] at a4; omega
theorem OrdAt.end_ {h k : Nat} (a : OrdAt h 0 k) : k = vsize h := by
  obtain ⟨_, _, _, a4⟩ := a
  rwa [if_pos rfl] at a4

set_option maxRecDepth 10000 in
set_option maxHeartbeats 800000 in
theorem order_lt (w : World) (a b : Nat) (hab : a < b) (hl64 : Hid (a < 18446744073709551616)) (hh64 : Hid (b < 18446744073709551616)) (k : Int) (hk : -9223372036854775808 ≤ k ∧ k ≤ 9223372036854775807) :
    Calls Try.prog 4 #[.int .u64 (a : Nat), .int .u64 (b : Nat), .int .i64 k] w fun e w' => e = .returned (.bool true) ∧ Below w.heap.size w w' := by
  have hz1 := Lib.hid (zig_one k hk)
  have hz64 := Lib.hid (zig_lt k hk)
  have hmono := vsize_mono a b (by omega) hh64.out
  go_enter Try.func4, Try.ntmps4
  go_wp2_with fail
  refine (shown01_any _).mono ?_
  rintro e w1 ⟨rfl, b1⟩
  have hhi' : ((b : Nat) : Int) ≤ 18446744073709551615 := by have := hh64.out; omega
  go_wp2_with fail
  go_loop [10, 11] (fun n x => ∃ m j : Nat, n = .int .i64 j ∧ x = .int .u64 m ∧ Hid (OrdAt b m j)) (fun _ x => (intOf x).toNat)
  case atStart => exact ⟨b / 128, 1, rfl, by go_num, Lib.hid (OrdAt.start b hh64.out)⟩
  case round =>
    obtain ⟨m, j, rfl, rfl, ho⟩ := hrel
    have hmi : (m : Int) ≤ 18446744073709551615 := by have := ho.out.1; omega
    have hj1 : 1 ≤ j := ho.out.2.1
    have hj2 : j ≤ 10 := ho.out.2.2.1
    by_cases hm : 0 < m
    · have hn := Lib.hid (ho.out.next (by omega))
      clear hmono
      go_wp2_with fail
      go_round
      case rel => exact ⟨m / 128, j + 1, by go_num, by go_num, hn⟩
      case measure => simp [intOf]; omega
    · obtain rfl : m = 0 := by omega
      have HJ : Hid (vsize b = j) := Lib.hid ho.out.end_.symm
      rw [HJ.out] at hmono
      by_cases hs : -64 ≤ k ∧ k < 64
      · have hv : vsize (zig k) = 1 := hz1.out.2 hs
        have hvb : (((vsize (zig k) : Nat) : Int) == 1) = true := by rw [hv]; rfl
        obtain ⟨s1, s2⟩ := hs
        clear hv
        go_wp2_with (first
          | (go_at_call 17; refine (zig_any k _ hk).mono ?_; rintro e w' ⟨rfl, rfl⟩)
          | (go_at_call_of 16 (Value.int .u64 ((a : Nat) : Int)); refine (size_any a _ hl64).mono ?_; rintro e w' ⟨rfl, rfl⟩; try rw [HJ.out])
          | (go_at_call_of 16 (Value.int .u64 ((b : Nat) : Int)); refine (size_any b _ hh64).mono ?_; rintro e w' ⟨rfl, rfl⟩; rw [HJ.out])
          | (go_at_call_of 16 (Value.int .u64 ((zig k : Nat) : Int)); refine (size_any (zig k) _ hz64).mono ?_; rintro e w' ⟨rfl, rfl⟩))
        go_ret
        exact ⟨by simp, b1⟩
      · have hv : vsize (zig k) ≠ 1 := fun h => hs (hz1.out.1 h)
        have hvb : (((vsize (zig k) : Nat) : Int) == 1) = false := by rw [beq_eq_false_iff_ne]; omega
        clear hv
        by_cases s1 : -64 ≤ k
        · have s2 : ¬ k < 64 := by omega
          clear hs
          go_wp2_with (first
            | (go_at_call 17; refine (zig_any k _ hk).mono ?_; rintro e w' ⟨rfl, rfl⟩)
            | (go_at_call_of 16 (Value.int .u64 ((a : Nat) : Int)); refine (size_any a _ hl64).mono ?_; rintro e w' ⟨rfl, rfl⟩; try rw [HJ.out])
            | (go_at_call_of 16 (Value.int .u64 ((b : Nat) : Int)); refine (size_any b _ hh64).mono ?_; rintro e w' ⟨rfl, rfl⟩; rw [HJ.out])
            | (go_at_call_of 16 (Value.int .u64 ((zig k : Nat) : Int)); refine (size_any (zig k) _ hz64).mono ?_; rintro e w' ⟨rfl, rfl⟩))
          go_ret
          exact ⟨by simp, b1⟩
        · clear hs
          go_wp2_with (first
            | (go_at_call 17; refine (zig_any k _ hk).mono ?_; rintro e w' ⟨rfl, rfl⟩)
            | (go_at_call_of 16 (Value.int .u64 ((a : Nat) : Int)); refine (size_any a _ hl64).mono ?_; rintro e w' ⟨rfl, rfl⟩; try rw [HJ.out])
            | (go_at_call_of 16 (Value.int .u64 ((b : Nat) : Int)); refine (size_any b _ hh64).mono ?_; rintro e w' ⟨rfl, rfl⟩; rw [HJ.out])
            | (go_at_call_of 16 (Value.int .u64 ((zig k : Nat) : Int)); refine (size_any (zig k) _ hz64).mono ?_; rintro e w' ⟨rfl, rfl⟩))
          go_ret
          exact ⟨by simp, b1⟩
set_option maxRecDepth 10000 in
set_option maxHeartbeats 800000 in
theorem order_gt (w : World) (a b : Nat) (hab : b < a) (hl64 : Hid (b < 18446744073709551616)) (hh64 : Hid (a < 18446744073709551616)) (k : Int) (hk : -9223372036854775808 ≤ k ∧ k ≤ 9223372036854775807) :
    Calls Try.prog 4 #[.int .u64 (a : Nat), .int .u64 (b : Nat), .int .i64 k] w fun e w' => e = .returned (.bool true) ∧ Below w.heap.size w w' := by
  have hz1 := Lib.hid (zig_one k hk)
  have hz64 := Lib.hid (zig_lt k hk)
  have hmono := vsize_mono b a (by omega) hh64.out
  go_enter Try.func4, Try.ntmps4
  go_wp2_with fail
  refine (shown01_any _).mono ?_
  rintro e w1 ⟨rfl, b1⟩
  have hhi' : ((a : Nat) : Int) ≤ 18446744073709551615 := by have := hh64.out; omega
  go_wp2_with fail
  go_loop [10, 11] (fun n x => ∃ m j : Nat, n = .int .i64 j ∧ x = .int .u64 m ∧ Hid (OrdAt a m j)) (fun _ x => (intOf x).toNat)
  case atStart => exact ⟨a / 128, 1, rfl, by go_num, Lib.hid (OrdAt.start a hh64.out)⟩
  case round =>
    obtain ⟨m, j, rfl, rfl, ho⟩ := hrel
    have hmi : (m : Int) ≤ 18446744073709551615 := by have := ho.out.1; omega
    have hj1 : 1 ≤ j := ho.out.2.1
    have hj2 : j ≤ 10 := ho.out.2.2.1
    by_cases hm : 0 < m
    · have hn := Lib.hid (ho.out.next (by omega))
      clear hmono
      go_wp2_with fail
      go_round
      case rel => exact ⟨m / 128, j + 1, by go_num, by go_num, hn⟩
      case measure => simp [intOf]; omega
    · obtain rfl : m = 0 := by omega
      have HJ : Hid (vsize a = j) := Lib.hid ho.out.end_.symm
      rw [HJ.out] at hmono
      by_cases hs : -64 ≤ k ∧ k < 64
      · have hv : vsize (zig k) = 1 := hz1.out.2 hs
        have hvb : (((vsize (zig k) : Nat) : Int) == 1) = true := by rw [hv]; rfl
        obtain ⟨s1, s2⟩ := hs
        clear hv
        go_wp2_with (first
          | (go_at_call 17; refine (zig_any k _ hk).mono ?_; rintro e w' ⟨rfl, rfl⟩)
          | (go_at_call_of 16 (Value.int .u64 ((b : Nat) : Int)); refine (size_any b _ hl64).mono ?_; rintro e w' ⟨rfl, rfl⟩; try rw [HJ.out])
          | (go_at_call_of 16 (Value.int .u64 ((a : Nat) : Int)); refine (size_any a _ hh64).mono ?_; rintro e w' ⟨rfl, rfl⟩; rw [HJ.out])
          | (go_at_call_of 16 (Value.int .u64 ((zig k : Nat) : Int)); refine (size_any (zig k) _ hz64).mono ?_; rintro e w' ⟨rfl, rfl⟩))
        go_ret
        exact ⟨by simp, b1⟩
      · have hv : vsize (zig k) ≠ 1 := fun h => hs (hz1.out.1 h)
        have hvb : (((vsize (zig k) : Nat) : Int) == 1) = false := by rw [beq_eq_false_iff_ne]; omega
        clear hv
        by_cases s1 : -64 ≤ k
        · have s2 : ¬ k < 64 := by omega
          clear hs
          go_wp2_with (first
            | (go_at_call 17; refine (zig_any k _ hk).mono ?_; rintro e w' ⟨rfl, rfl⟩)
            | (go_at_call_of 16 (Value.int .u64 ((b : Nat) : Int)); refine (size_any b _ hl64).mono ?_; rintro e w' ⟨rfl, rfl⟩; try rw [HJ.out])
            | (go_at_call_of 16 (Value.int .u64 ((a : Nat) : Int)); refine (size_any a _ hh64).mono ?_; rintro e w' ⟨rfl, rfl⟩; rw [HJ.out])
            | (go_at_call_of 16 (Value.int .u64 ((zig k : Nat) : Int)); refine (size_any (zig k) _ hz64).mono ?_; rintro e w' ⟨rfl, rfl⟩))
          go_ret
          exact ⟨by simp, b1⟩
        · clear hs
          go_wp2_with (first
            | (go_at_call 17; refine (zig_any k _ hk).mono ?_; rintro e w' ⟨rfl, rfl⟩)
            | (go_at_call_of 16 (Value.int .u64 ((b : Nat) : Int)); refine (size_any b _ hl64).mono ?_; rintro e w' ⟨rfl, rfl⟩; try rw [HJ.out])
            | (go_at_call_of 16 (Value.int .u64 ((a : Nat) : Int)); refine (size_any a _ hh64).mono ?_; rintro e w' ⟨rfl, rfl⟩; rw [HJ.out])
            | (go_at_call_of 16 (Value.int .u64 ((zig k : Nat) : Int)); refine (size_any (zig k) _ hz64).mono ?_; rintro e w' ⟨rfl, rfl⟩))
          go_ret
          exact ⟨by simp, b1⟩
set_option maxRecDepth 10000 in
set_option maxHeartbeats 800000 in
theorem order_eq (w : World) (a : Nat) (hl64 : Hid (a < 18446744073709551616)) (hh64 : Hid (a < 18446744073709551616)) (k : Int) (hk : -9223372036854775808 ≤ k ∧ k ≤ 9223372036854775807) :
    Calls Try.prog 4 #[.int .u64 (a : Nat), .int .u64 (a : Nat), .int .i64 k] w fun e w' => e = .returned (.bool true) ∧ Below w.heap.size w w' := by
  have hz1 := Lib.hid (zig_one k hk)
  have hz64 := Lib.hid (zig_lt k hk)
  have hmono := vsize_mono a a (by omega) hh64.out
  go_enter Try.func4, Try.ntmps4
  go_wp2_with fail
  refine (shown01_any _).mono ?_
  rintro e w1 ⟨rfl, b1⟩
  have hhi' : ((a : Nat) : Int) ≤ 18446744073709551615 := by have := hh64.out; omega
  go_wp2_with fail
  go_loop [10, 11] (fun n x => ∃ m j : Nat, n = .int .i64 j ∧ x = .int .u64 m ∧ Hid (OrdAt a m j)) (fun _ x => (intOf x).toNat)
  case atStart => exact ⟨a / 128, 1, rfl, by go_num, Lib.hid (OrdAt.start a hh64.out)⟩
  case round =>
    obtain ⟨m, j, rfl, rfl, ho⟩ := hrel
    have hmi : (m : Int) ≤ 18446744073709551615 := by have := ho.out.1; omega
    have hj1 : 1 ≤ j := ho.out.2.1
    have hj2 : j ≤ 10 := ho.out.2.2.1
    by_cases hm : 0 < m
    · have hn := Lib.hid (ho.out.next (by omega))
      clear hmono
      go_wp2_with fail
      go_round
      case rel => exact ⟨m / 128, j + 1, by go_num, by go_num, hn⟩
      case measure => simp [intOf]; omega
    · obtain rfl : m = 0 := by omega
      have HJ : Hid (vsize a = j) := Lib.hid ho.out.end_.symm
      rw [HJ.out] at hmono
      by_cases hs : -64 ≤ k ∧ k < 64
      · have hv : vsize (zig k) = 1 := hz1.out.2 hs
        have hvb : (((vsize (zig k) : Nat) : Int) == 1) = true := by rw [hv]; rfl
        obtain ⟨s1, s2⟩ := hs
        clear hv
        go_wp2_with (first
          | (go_at_call 17; refine (zig_any k _ hk).mono ?_; rintro e w' ⟨rfl, rfl⟩)
          | (go_at_call_of 16 (Value.int .u64 ((a : Nat) : Int)); refine (size_any a _ hl64).mono ?_; rintro e w' ⟨rfl, rfl⟩; try rw [HJ.out])
          | (go_at_call_of 16 (Value.int .u64 ((a : Nat) : Int)); refine (size_any a _ hh64).mono ?_; rintro e w' ⟨rfl, rfl⟩; rw [HJ.out])
          | (go_at_call_of 16 (Value.int .u64 ((zig k : Nat) : Int)); refine (size_any (zig k) _ hz64).mono ?_; rintro e w' ⟨rfl, rfl⟩))
        go_ret
        exact ⟨by simp, b1⟩
      · have hv : vsize (zig k) ≠ 1 := fun h => hs (hz1.out.1 h)
        have hvb : (((vsize (zig k) : Nat) : Int) == 1) = false := by rw [beq_eq_false_iff_ne]; omega
        clear hv
        by_cases s1 : -64 ≤ k
        · have s2 : ¬ k < 64 := by omega
          clear hs
          go_wp2_with (first
            | (go_at_call 17; refine (zig_any k _ hk).mono ?_; rintro e w' ⟨rfl, rfl⟩)
            | (go_at_call_of 16 (Value.int .u64 ((a : Nat) : Int)); refine (size_any a _ hl64).mono ?_; rintro e w' ⟨rfl, rfl⟩; try rw [HJ.out])
            | (go_at_call_of 16 (Value.int .u64 ((a : Nat) : Int)); refine (size_any a _ hh64).mono ?_; rintro e w' ⟨rfl, rfl⟩; rw [HJ.out])
            | (go_at_call_of 16 (Value.int .u64 ((zig k : Nat) : Int)); refine (size_any (zig k) _ hz64).mono ?_; rintro e w' ⟨rfl, rfl⟩))
          go_ret
          exact ⟨by simp, b1⟩
        · clear hs
          go_wp2_with (first
            | (go_at_call 17; refine (zig_any k _ hk).mono ?_; rintro e w' ⟨rfl, rfl⟩)
            | (go_at_call_of 16 (Value.int .u64 ((a : Nat) : Int)); refine (size_any a _ hl64).mono ?_; rintro e w' ⟨rfl, rfl⟩; try rw [HJ.out])
            | (go_at_call_of 16 (Value.int .u64 ((a : Nat) : Int)); refine (size_any a _ hh64).mono ?_; rintro e w' ⟨rfl, rfl⟩; rw [HJ.out])
            | (go_at_call_of 16 (Value.int .u64 ((zig k : Nat) : Int)); refine (size_any (zig k) _ hz64).mono ?_; rintro e w' ⟨rfl, rfl⟩))
          go_ret
          exact ⟨by simp, b1⟩

theorem varintOrder_walk (w : World) (a : Int) (ha : 0 ≤ a ∧ a ≤ 18446744073709551615) (b : Int) (hb : 0 ≤ b ∧ b ≤ 18446744073709551615) (k : Int) (hk : -9223372036854775808 ≤ k ∧ k ≤ 9223372036854775807) :
    Calls Try.prog 4 #[.int .u64 a, .int .u64 b, .int .i64 k] w fun e w' => e = .returned (.bool true) ∧ Below w.heap.size w w' := by
  obtain ⟨x, rfl⟩ := Int.eq_ofNat_of_zero_le ha.1
  obtain ⟨y, rfl⟩ := Int.eq_ofNat_of_zero_le hb.1
  have hx := Lib.hid (show x < 18446744073709551616 by omega)
  have hy := Lib.hid (show y < 18446744073709551616 by omega)
  rcases Nat.lt_trichotomy x y with h | h | h
  · exact order_lt w x y h hx hy k hk
  · subst h
    exact order_eq w x hx hy k hk
  · exact order_gt w x y h hy hx k hk
end Go.Proofs.Ytaaibgbblehngaa
