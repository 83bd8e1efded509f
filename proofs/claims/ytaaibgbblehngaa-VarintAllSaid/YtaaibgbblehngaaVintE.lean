/- The walk of varint.Take. -/
import Derived.Test.YtaaibgbblehngaaVintD
import Derived.Deep.LoopGhost
namespace Go.Proofs.Ytaaibgbblehngaa
open Go.RowKit

theorem bits_or_comm (x y : Int) : bits .or .u64 x y = bits .or .u64 y x := by simp only [bits, BitVec.or_comm]

theorem u64_group (acc q k : Nat) (hacc : acc < 128 ^ k) (hk : k ≤ 9) (hq : k = 9 → q % 128 ≤ 1) :
    bits .or .u64 (acc : Int) (IntKind.u64.wrap ((q : Int) % 128 * 2 ^ (7 * k))) = ((acc + q % 128 * 128 ^ k : Nat) : Int) := by
  have e1 : (2 : Int) ^ (7 * k) = ((128 ^ k : Nat) : Int) := by rw [Int.pow_mul]; norm_cast
  have e0 : (q : Int) % 128 = ((q % 128 : Nat) : Int) := by omega
  have hb : q % 128 * 128 ^ k ≤ 9223372036854775808 ∧ 128 ^ k ≤ 9223372036854775808 := by
    by_cases h9 : k = 9
    · subst h9
      have h1 := hq rfl
      rw [pow9]
      omega
    · have h8 : 128 ^ k ≤ 128 ^ 8 := Nat.pow_le_pow_right (by omega) (by omega)
      have e8 : (128 : Nat) ^ 8 = 72057594037927936 := by decide
      rw [e8] at h8
      have hmul : q % 128 * 128 ^ k ≤ 127 * 72057594037927936 := Nat.mul_le_mul (by omega) h8
      omega
  rw [e1, e0, ← Int.natCast_mul, IntWalk.u64_in _ (by omega), bits_or_comm]
  have hp : (128 ^ k : Nat) = 2 ^ (7 * k) := by rw [Nat.pow_mul]
  rw [bits_join .u64 64 (by decide) (fun n h1 h2 => IntWalk.u64_in n (by omega)) (7 * k) _ _ (by omega) ?_ (by omega) (by omega) ?_ (by omega)]
  · omega
  · rw [hp]
    have : ((q % 128 * 2 ^ (7 * k) : Nat) : Int) % 2 ^ (7 * k) = (((q % 128 * 2 ^ (7 * k)) % 2 ^ (7 * k) : Nat) : Int) := by push_cast; rfl
    rw [this, Nat.mul_mod_left]
    rfl
  · have : ((2 : Int) ^ (7 * k)) = ((2 ^ (7 * k) : Nat) : Int) := by push_cast; rfl
    rw [this, ← hp]
    omega

set_option maxRecDepth 10000 in
set_option maxHeartbeats 1600000 in
theorem vtake_any (A : Option Addr) (b : List UInt8) (n c : Nat) (w : World) (hn : b.length = n) (hm : n ≤ 9223372036854775807) (hA : Bs w w.heap.size A b) :
    Calls Try.prog 14 #[.slice A n c] w fun e w' => e = .returned (.tuple #[.int .u64 ((vtake b).1 : Nat), .int .i64 ((vtake b).2.1 : Nat), .int .i64 ((vtake b).2.2 : Nat)]) ∧ w = w' := by
  have HN := Lib.hid hn
  clear hn
  go_enter Try.func14, Try.ntmps14
  go_wp2_with fail
  go_step3
  go_wp2_with fail
  go_step3
  go_wp2_with fail
  go_loop [5, 6, 7, 8, 9] (fun a s e _ i => ∃ k acc : Nat, i = .int .i64 k ∧ a = .int .u64 acc ∧ s = .int .i64 0 ∧ e = .int .i64 3 ∧ k ≤ 9 ∧ k ≤ n ∧ Hid (acc < 128 ^ k) ∧ vtake b = vt k acc (b.drop k)) (fun _ _ _ _ i => 10 - (intOf i).toNat)
  case atStart => exact ⟨0, 0, rfl, rfl, rfl, rfl, by omega, by omega, by simp [Hid], rfl⟩
  case round =>
    obtain ⟨k, acc, rfl, rfl, rfl, rfl, hk, hkn, hacc, hv⟩ := hrel
    have HV := Lib.hid hv
    clear hv
    by_cases hlt : k < n
    · obtain ⟨g, off, rfl, hg, hc⟩ := hA (by rw [HN.out]; omega)
      have ck := hc k (by rw [HN.out]; omega)
      have hd : b.drop k = b.getD k 0 :: b.drop (k + 1) := by
        rw [List.drop_eq_getElem_cons (by rw [HN.out]; omega), List.getD_eq_getElem?_getD, List.getElem?_eq_getElem (by rw [HN.out]; omega)]
        rfl
      have hkn2 : ((k : Int) == (n : Int)) = false := by rw [beq_eq_false_iff_ne]; omega
      have hand := u8_and127 (b.getD k 0)
      rw [byteN_toNat] at hand
      have hql := (b.getD k 0).toNat_lt
      have hv2 := HV.out
      rw [hd] at hv2
      unfold vt at hv2
      clear hd hc hA
      generalize (b.getD k 0).toNat = q at *
      have hqm : ((q % 128 % 256 : Nat) : Int) = (q : Int) % 128 := by omega
      rw [hqm] at hand
      clear hqm
      by_cases hbad : (0 < k ∧ q = 0) ∨ (k = 9 ∧ 1 < q)
      · rw [if_pos hbad] at hv2
        have HF := Lib.hid hv2
        clear hv2 HV hacc hand
        rcases hbad with ⟨hk0, rfl⟩ | ⟨rfl, hq1⟩
        · have hk0b : decide (0 < k) = true := by simp; omega
          go_wp2_with fail
          go_ret3
          exact ⟨by rw [HF.out]; rfl, rfl⟩
        · have hq0 : ((q : Int) == 0) = false := by rw [beq_eq_false_iff_ne]; omega
          go_wp2_with fail
          go_ret3
          exact ⟨by rw [HF.out]; rfl, rfl⟩
      · rw [if_neg hbad] at hv2
        have hg := u64_group acc q k hacc.out hk (by omega)
        by_cases hsm : q < 128
        · rw [if_pos hsm] at hv2
          have HF := Lib.hid hv2
          rw [Nat.mod_eq_of_lt hsm] at hg
          clear hv2 HV hacc
          have hq1b : k = 9 → decide (1 < (q : Int)) = false := by intro h; simp; omega
          by_cases hk0 : 0 < k
          · have hq0 : ((q : Int) == 0) = false := by rw [beq_eq_false_iff_ne]; omega
            have hk0b : decide (0 < k) = true := by simp; omega
            by_cases hk9 : k = 9
            · have hk9b : ((k : Int) == 9) = true := by rw [beq_iff_eq]; omega
              have hq2 := hq1b hk9
              clear hbad hk9 hq1b
              generalize acc + q * 128 ^ k = v at *
              go_wp2_with fail
              go_ret3
              exact ⟨by rw [HF.out]; rfl, rfl⟩
            · have hk9b : ((k : Int) == 9) = false := by rw [beq_eq_false_iff_ne]; omega
              clear hbad hk9 hq1b
              generalize acc + q * 128 ^ k = v at *
              go_wp2_with fail
              go_ret3
              exact ⟨by rw [HF.out]; rfl, rfl⟩
          · have hk0b : decide (0 < k) = false := by simp; omega
            have hk9b : ((k : Int) == 9) = false := by rw [beq_eq_false_iff_ne]; omega
            clear hbad hk0 hq1b
            generalize acc + q * 128 ^ k = v at *
            go_wp2_with fail
            go_ret3
            exact ⟨by rw [HF.out]; rfl, rfl⟩
        · rw [if_neg hsm] at hv2
          have HF := Lib.hid hv2
          have e128 : q % 128 = q - 128 := by omega
          rw [e128] at hg
          have hk8 : k ≤ 8 := by omega
          have hacc2 := Lib.hid (show acc + (q - 128) * 128 ^ k < 128 ^ (k + 1) by
            have h1 := hacc.out
            have h2 : (q - 128) * 128 ^ k ≤ 127 * 128 ^ k := Nat.mul_le_mul_right _ (by omega)
            rw [Nat.pow_succ]
            omega)
          have hq0 : ((q : Int) == 0) = false := by rw [beq_eq_false_iff_ne]; omega
          have hk9b : ((k : Int) == 9) = false := by rw [beq_eq_false_iff_ne]; omega
          clear hv2 HV hacc e128 hbad
          generalize acc + (q - 128) * 128 ^ k = v at *
          by_cases hk0 : 0 < k
          · have hk0b : decide (0 < k) = true := by simp; omega
            go_wp2_with fail
            go_round
            case rel => exact ⟨k + 1, v, by go_num, rfl, rfl, rfl, by omega, by omega, hacc2, HF.out⟩
            case measure => simp [intOf]; omega
          · have hk0b : decide (0 < k) = false := by simp; omega
            have HK := Lib.hid hk0
            clear hk0
            go_wp2_with fail
            go_round
            case rel => exact ⟨k + 1, v, by go_num, rfl, rfl, rfl, by omega, by omega, hacc2, HF.out⟩
            case measure => simp [intOf]; omega
    · obtain rfl : k = n := by omega
      have hd : b.drop k = [] := List.eq_nil_of_length_eq_zero (by rw [List.length_drop, HN.out]; omega)
      have HF := Lib.hid (show vtake b = (0, 0, 2) by rw [HV.out, hd]; rfl)
      have hkk : ((k : Int) == (k : Int)) = true := by simp
      clear hd HV hlt
      go_wp2_with fail
      go_ret3
      exact ⟨by rw [HF.out]; rfl, rfl⟩
end Go.Proofs.Ytaaibgbblehngaa
