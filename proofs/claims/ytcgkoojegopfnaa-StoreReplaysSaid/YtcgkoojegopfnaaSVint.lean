/- The walks of varint.Size, Put and Take, and of the reference of Put. -/
import Derived.Test.YtcgkoojegopfnaaApp
import Derived.Test.YtcgkoojegopfnaaVintB
import Derived.Deep.LoopGhost
namespace Go.Proofs.Ytcgkoojegopfnaa
open Go.RowKit

set_option maxRecDepth 10000 in
theorem size_any (n : Nat) (w : World) (h : Hid (n < 18446744073709551616)) :
    Calls Try.prog 62 #[.int .u64 n] w fun e w' => e = .returned (.int .i64 (vsize n : Nat)) ∧ w = w' := by
  go_enter Try.func62, Try.ntmps62
  go_wp2
  go_loop [0, 3] (fun x s => ∃ m k : Nat, x = .int .u64 m ∧ s = .int .i64 k ∧ Hid (m < 18446744073709551616) ∧ 1 ≤ k ∧ k ≤ 10 ∧ k - 1 + vsize m = vsize n) (fun x _ => (intOf x).toNat)
  case atStart => exact ⟨n, 1, rfl, rfl, h, by omega, by omega, by omega⟩
  case round =>
    obtain ⟨m, k, rfl, rfl, hm, hk, hk2, hs⟩ := hrel
    have hle := vsize_le n
    have hmi : (m : Int) ≤ 18446744073709551615 := by have := hm.out; omega
    by_cases hlt : m < 128
    · have HV := Lib.hid (show k = vsize n by rw [vsize_small m hlt] at hs; omega)
      clear hs hle
      go_wp2
      go_ret
      exact ⟨by rw [← HV.out]; rfl, rfl⟩
    · have hb := vsize_big m hlt hm.out
      have HM := Lib.hid (show m / 128 < 18446744073709551616 by have := hm.out; omega)
      have hp := vsize_pos (m / 128)
      have HV := Lib.hid (show k + 1 - 1 + vsize (m / 128) = vsize n by omega)
      have hk9 : k ≤ 9 := by omega
      clear hs hle hb hp
      go_wp2
      go_round
      case rel => exact ⟨m / 128, k + 1, by go_num, by go_num, HM, by omega, by omega, HV.out⟩
      case measure => simp [intOf]; omega

theorem or128_all : ∀ x : Fin 256, Nat.lor x.val 128 = x.val % 128 + 128 := by decide +kernel

theorem and127_all : ∀ x : Fin 256, Nat.land x.val 127 = x.val % 128 := by decide +kernel

theorem u8_or128 (m : Nat) : bits .or .u8 ((m : Int) % 256) 128 = ((byteN (m % 128 + 128)).toNat : Int) := by
  rw [u8_or _ _ (by omega) (by omega) (by omega) (by omega), byteN_toNat]
  have h : Nat.lor (m % 256) 128 = m % 256 % 128 + 128 := or128_all ⟨m % 256, by omega⟩
  have e : ((m : Int) % 256).toNat = m % 256 := by omega
  rw [e]
  show ((Nat.lor (m % 256) 128 : Nat) : Int) = _
  rw [h]
  omega

theorem u8_and127 (b : UInt8) : bits .and .u8 (b.toNat : Int) 127 = ((byteN (b.toNat % 128)).toNat : Int) := by
  have hb := b.toNat_lt
  rw [u8_and _ _ (by omega) (by omega) (by omega) (by omega), byteN_toNat]
  have h : Nat.land b.toNat 127 = b.toNat % 128 := and127_all ⟨b.toNat, hb⟩
  show ((Nat.land ((b.toNat : Int).toNat) 127 : Nat) : Int) = _
  rw [Int.toNat_natCast, h]
  omega

def PutV (w : World) (n : Nat) (e : Ending) (w' : World) : Prop :=
  ∃ A c, e = .returned (.slice A (vsize n) c) ∧ Own w' w.heap.size A (vsize n) c (vput n) ∧ Below w.heap.size w w'

set_option maxRecDepth 10000 in
set_option maxHeartbeats 400000 in
theorem vput_any (n : Nat) (w : World) (h : Hid (n < 18446744073709551616)) :
    Calls Try.prog 49 #[.int .u64 n] w (PutV w n) := by
  have hni : (n : Int) ≤ 18446744073709551615 := by have := h.out; omega
  go_enter Try.func49, Try.ntmps49
  go_wp2_with fail
  refine (size_any n _ h).mono ?_
  rintro e w1 ⟨rfl, rfl⟩
  have hle := vsize_le n
  have hpos := vsize_pos n
  obtain ⟨s, hs⟩ : ∃ s, vsize n = s + 1 := ⟨vsize n - 1, by omega⟩
  have HS := Lib.hid hs
  rw [hs]
  have hs9 : s ≤ 9 := by omega
  have hfin := Lib.hid (hib_vput n s h.out hs)
  clear hs hle hpos
  go_wp2_with (at_make; refine mk rfl (.tmp 8) (.tmp 8) rfl .i64 .i64 _ _ (s + 1) rfl rfl rfl rfl (by omega) (Nat.le_refl _) ?_; intro w2 o2 g2; have b2 : Below w.heap.size w w2 := (Below.refl _ _).grown g2 (Nat.le_refl _) (by simp))
  go_loopw [0, 5, 11] (fun x _ i wr => ∃ k : Nat, i = .int .i64 k ∧ k ≤ s + 1 ∧ x = .int .u64 (n / 128 ^ k : Nat) ∧ Own wr w.heap.size (some ⟨w.heap.size, 0, none⟩) (s + 1) (s + 1) (hib n k ++ List.replicate (s + 1 - k) 0) ∧ Below w.heap.size w wr) (fun _ _ i _ => s + 1 - (intOf i).toNat)
  case atStart => exact ⟨0, rfl, by omega, by simp, by simpa [hib] using o2, b2⟩
  case round =>
    obtain ⟨k, rfl, hk, rfl, oo, hb⟩ := hrel
    have hdm : ((n / 128 ^ k : Nat) : Int) ≤ 18446744073709551615 := by have := Nat.div_le_self n (128 ^ k); have := h.out; omega
    by_cases hlt : k < s + 1
    · have fk := oo.free k
      have hor := u8_or128 (n / 128 ^ k)
      have os := oo.set k (byteN (n / 128 ^ k % 128 + 128))
      rw [show s + 1 - k = (s + 1 - (k + 1)) + 1 by omega, hib_set] at os
      have ck := oo.cell k (by have := oo.1; omega)
      have HD := Lib.hid (show n / 128 ^ k / 128 = n / 128 ^ (k + 1) by rw [Nat.div_div_eq_div_mul, Nat.pow_succ])
      generalize n / 128 ^ k = m at *
      go_wp2
      go_roundw
      case rel => exact ⟨k + 1, by go_num, by omega, by rw [← HD.out]; go_num, os, hb.setCell (by simp) _⟩
      case measure => simp [intOf]; omega
    · obtain rfl : k = s + 1 := by omega
      rw [Nat.sub_self, List.replicate_zero, List.append_nil] at oo
      have ck := oo.cell s (by rw [hib_length]; omega)
      have fk := oo.free s
      have hg : (hib n (s + 1))[s]'(by rw [hib_length]; omega) = byteN (n / 128 ^ s % 128 + 128) := by
        have := hib_getD n (s + 1) s (by omega)
        rw [List.getElem?_eq_getElem (by rw [hib_length]; omega)] at this
        exact Option.some.inj this
      rw [hg] at ck
      have hand := u8_and127 (byteN (n / 128 ^ s % 128 + 128))
      have he : byteN ((byteN (n / 128 ^ s % 128 + 128)).toNat % 128) = byteN (n / 128 ^ s % 128) := byteN_eq (by rw [byteN_toNat, byteN_toNat]; omega)
      rw [he] at hand
      have os := oo.set s (byteN (n / 128 ^ s % 128))
      rw [hfin.out] at os
      clear he hg hlt
      go_wp2
      go_ret
      exact ⟨some ⟨w.heap.size, 0, none⟩, s + 1, by rw [HS.out]; rfl, by rw [HS.out]; exact os, hb.setCell (by simp) _⟩

theorem bits_or_comm (x y : Int) : bits .or .u64 x y = bits .or .u64 y x := by simp only [bits, BitVec.or_comm]

theorem u64_group (acc q k : Nat) (hacc : acc < 128 ^ k) (hk : k ≤ 9) (hq : k = 9 → q % 128 ≤ 1) :
    bits .or .u64 (acc : Int) (IntKind.u64.wrap ((q : Int) % 128 * 2 ^ (7 * k))) = ((acc + q % 128 * 128 ^ k : Nat) : Int) := by
  have e1 : (2 : Int) ^ (7 * k) = ((128 ^ k : Nat) : Int) := by rw [Int.pow_mul]; norm_cast
  have e0 : (q : Int) % 128 = ((q % 128 : Nat) : Int) := by omega
  have hb : q % 128 * 128 ^ k ≤ 9223372036854775808 ∧ 128 ^ k ≤ 9223372036854775808 := by
    by_cases h9 : k = 9
    · subst h9
      have h1 := hq rfl
      rw [pow9]
      omega
    · have h8 : 128 ^ k ≤ 128 ^ 8 := Nat.pow_le_pow_right (by omega) (by omega)
      have e8 : (128 : Nat) ^ 8 = 72057594037927936 := by decide
      rw [e8] at h8
      have hmul : q % 128 * 128 ^ k ≤ 127 * 72057594037927936 := Nat.mul_le_mul (by omega) h8
      omega
  rw [e1, e0, ← Int.natCast_mul, IntWalk.u64_in _ (by omega), bits_or_comm]
  have hp : (128 ^ k : Nat) = 2 ^ (7 * k) := by rw [Nat.pow_mul]
  rw [bits_join .u64 64 (by decide) (fun n h1 h2 => IntWalk.u64_in n (by omega)) (7 * k) _ _ (by omega) ?_ (by omega) (by omega) ?_ (by omega)]
  · omega
  · rw [hp]
    have : ((q % 128 * 2 ^ (7 * k) : Nat) : Int) % 2 ^ (7 * k) = (((q % 128 * 2 ^ (7 * k)) % 2 ^ (7 * k) : Nat) : Int) := by push_cast; rfl
    rw [this, Nat.mul_mod_left]
    rfl
  · have : ((2 : Int) ^ (7 * k)) = ((2 ^ (7 * k) : Nat) : Int) := by push_cast; rfl
    rw [this, ← hp]
    omega

set_option maxRecDepth 10000 in
set_option maxHeartbeats 1600000 in
theorem vtake_any (A : Option Addr) (b : List UInt8) (n c : Nat) (w : World) (hn : b.length = n) (hm : n ≤ 9223372036854775807) (hA : Bs w w.heap.size A b) :
    Calls Try.prog 63 #[.slice A n c] w fun e w' => e = .returned (.tuple #[.int .u64 ((vtake b).1 : Nat), .int .i64 ((vtake b).2.1 : Nat), .int .i64 ((vtake b).2.2 : Nat)]) ∧ w = w' := by
  have HN := Lib.hid hn
  clear hn
  go_enter Try.func63, Try.ntmps63
  go_wp2_with fail
  go_step3
  go_wp2_with fail
  go_step3
  go_wp2_with fail
  go_loop [5, 6, 7, 8, 9] (fun a s e _ i => ∃ k acc : Nat, i = .int .i64 k ∧ a = .int .u64 acc ∧ s = .int .i64 0 ∧ e = .int .i64 3 ∧ k ≤ 9 ∧ k ≤ n ∧ Hid (acc < 128 ^ k) ∧ vtake b = vt k acc (b.drop k)) (fun _ _ _ _ i => 10 - (intOf i).toNat)
  case atStart => exact ⟨0, 0, rfl, rfl, rfl, rfl, by omega, by omega, by simp [Hid], rfl⟩
  case round =>
    obtain ⟨k, acc, rfl, rfl, rfl, rfl, hk, hkn, hacc, hv⟩ := hrel
    have HV := Lib.hid hv
    clear hv
    by_cases hlt : k < n
    · obtain ⟨g, off, rfl, hg, hc⟩ := hA (by rw [HN.out]; omega)
      have ck := hc k (by rw [HN.out]; omega)
      have hd : b.drop k = b.getD k 0 :: b.drop (k + 1) := by
        rw [List.drop_eq_getElem_cons (by rw [HN.out]; omega), List.getD_eq_getElem?_getD, List.getElem?_eq_getElem (by rw [HN.out]; omega)]
        rfl
      have hkn2 : ((k : Int) == (n : Int)) = false := by rw [beq_eq_false_iff_ne]; omega
      have hand := u8_and127 (b.getD k 0)
      rw [byteN_toNat] at hand
      have hql := (b.getD k 0).toNat_lt
      have hv2 := HV.out
      rw [hd] at hv2
      unfold vt at hv2
      clear hd hc hA
      generalize (b.getD k 0).toNat = q at *
      have hqm : ((q % 128 % 256 : Nat) : Int) = (q : Int) % 128 := by omega
      rw [hqm] at hand
      clear hqm
      by_cases hbad : (0 < k ∧ q = 0) ∨ (k = 9 ∧ 1 < q)
      · rw [if_pos hbad] at hv2
        have HF := Lib.hid hv2
        clear hv2 HV hacc hand
        rcases hbad with ⟨hk0, rfl⟩ | ⟨rfl, hq1⟩
        · have hk0b : decide (0 < k) = true := by simp; omega
          go_wp2_with fail
          go_ret3
          exact ⟨by rw [HF.out]; rfl, rfl⟩
        · have hq0 : ((q : Int) == 0) = false := by rw [beq_eq_false_iff_ne]; omega
          go_wp2_with fail
          go_ret3
          exact ⟨by rw [HF.out]; rfl, rfl⟩
      · rw [if_neg hbad] at hv2
        have hg := u64_group acc q k hacc.out hk (by omega)
        by_cases hsm : q < 128
        · rw [if_pos hsm] at hv2
          have HF := Lib.hid hv2
          rw [Nat.mod_eq_of_lt hsm] at hg
          clear hv2 HV hacc
          have hq1b : k = 9 → decide (1 < (q : Int)) = false := by intro h; simp; omega
          by_cases hk0 : 0 < k
          · have hq0 : ((q : Int) == 0) = false := by rw [beq_eq_false_iff_ne]; omega
            have hk0b : decide (0 < k) = true := by simp; omega
            by_cases hk9 : k = 9
            · have hk9b : ((k : Int) == 9) = true := by rw [beq_iff_eq]; omega
              have hq2 := hq1b hk9
              clear hbad hk9 hq1b
              generalize acc + q * 128 ^ k = v at *
              go_wp2_with fail
              go_ret3
              exact ⟨by rw [HF.out]; rfl, rfl⟩
            · have hk9b : ((k : Int) == 9) = false := by rw [beq_eq_false_iff_ne]; omega
              clear hbad hk9 hq1b
              generalize acc + q * 128 ^ k = v at *
              go_wp2_with fail
              go_ret3
              exact ⟨by rw [HF.out]; rfl, rfl⟩
          · have hk0b : decide (0 < k) = false := by simp; omega
            have hk9b : ((k : Int) == 9) = false := by rw [beq_eq_false_iff_ne]; omega
            clear hbad hk0 hq1b
            generalize acc + q * 128 ^ k = v at *
            go_wp2_with fail
            go_ret3
            exact ⟨by rw [HF.out]; rfl, rfl⟩
        · rw [if_neg hsm] at hv2
          have HF := Lib.hid hv2
          have e128 : q % 128 = q - 128 := by omega
          rw [e128] at hg
          have hk8 : k ≤ 8 := by omega
          have hacc2 := Lib.hid (show acc + (q - 128) * 128 ^ k < 128 ^ (k + 1) by
            have h1 := hacc.out
            have h2 : (q - 128) * 128 ^ k ≤ 127 * 128 ^ k := Nat.mul_le_mul_right _ (by omega)
            rw [Nat.pow_succ]
            omega)
          have hq0 : ((q : Int) == 0) = false := by rw [beq_eq_false_iff_ne]; omega
          have hk9b : ((k : Int) == 9) = false := by rw [beq_eq_false_iff_ne]; omega
          clear hv2 HV hacc e128 hbad
          generalize acc + (q - 128) * 128 ^ k = v at *
          by_cases hk0 : 0 < k
          · have hk0b : decide (0 < k) = true := by simp; omega
            go_wp2_with fail
            go_round
            case rel => exact ⟨k + 1, v, by go_num, rfl, rfl, rfl, by omega, by omega, hacc2, HF.out⟩
            case measure => simp [intOf]; omega
          · have hk0b : decide (0 < k) = false := by simp; omega
            have HK := Lib.hid hk0
            clear hk0
            go_wp2_with fail
            go_round
            case rel => exact ⟨k + 1, v, by go_num, rfl, rfl, rfl, by omega, by omega, hacc2, HF.out⟩
            case measure => simp [intOf]; omega
    · obtain rfl : k = n := by omega
      have hd : b.drop k = [] := List.eq_nil_of_length_eq_zero (by rw [List.length_drop, HN.out]; omega)
      have HF := Lib.hid (show vtake b = (0, 0, 2) by rw [HV.out, hd]; rfl)
      have hkk : ((k : Int) == (k : Int)) = true := by simp
      clear hd HV hlt
      go_wp2_with fail
      go_ret3
      exact ⟨by rw [HF.out]; rfl, rfl⟩

/-- After some rounds: what is laid down so far, and what is left. -/
def VAt (n m : Nat) (l : List UInt8) : Prop := vput n = l ++ vput m ∧ m < 18446744073709551616 ∧ l.length + 1 ≤ 10

theorem VAt.next {n m : Nat} {l : List UInt8} (h : VAt n m l) (hm : ¬ m < 128) : VAt n (m / 128) (l ++ [byteN (m % 128 + 128)]) := by
  obtain ⟨h1, h2, h3⟩ := h
  have hb := vput_big m hm h2
  refine ⟨by rw [h1, hb, List.append_assoc]; rfl, by omega, ?_⟩
  have hs := vsize_le n
  unfold vsize at hs
  have hp := vput_ne (m / 128)
  rw [h1, hb, List.length_append, List.length_cons] at hs
  rw [List.length_append, List.length_singleton]
  omega

set_option maxRecDepth 10000 in
set_option maxHeartbeats 400000 in
theorem rvput_any (n : Nat) (w : World) (h : Hid (n < 18446744073709551616)) :
    Calls Try.prog 67 #[.int .u64 n] w (PutV w n) := by
  go_enter Try.func67, Try.ntmps67
  go_wp2_with fail
  go_loopw [0, 3] (fun x b wr => ∃ (m k : Nat) (A : Option Addr) (c : Nat) (l : List UInt8), x = .int .u64 m ∧ b = .slice A k c ∧ k ≤ 9 ∧ Hid (VAt n m l) ∧ Own wr w.heap.size A k c l ∧ Below w.heap.size w wr) (fun x _ _ => (intOf x).toNat)
  case atStart => exact ⟨n, 0, some ⟨w.heap.size, 0, none⟩, 0, [], rfl, rfl, by omega, Lib.hid ⟨rfl, h.out, by decide⟩, Ob.empty (Nat.le_refl _), (Below.refl _ _).alloc (Nat.le_refl _) _⟩
  case round =>
    obtain ⟨m, k, A, c, l, rfl, rfl, hk, hv, oo, hb⟩ := hrel
    have hmi : (m : Int) ≤ 18446744073709551615 := by have := hv.out.2.1; omega
    have hkl := oo.1
    by_cases hlt : m < 128
    · have hcell : (#[Value.int .u8 (m : Int)] : Array Value).toList.take [byteN m].length = [byteN m].map bv := by
        simp [bv, byteN_toNat]; omega
      have HC := Lib.hid hcell
      have hfin := Lib.hid (show vput n = l ++ [byteN m] by rw [hv.out.1, vput_small m hlt])
      have hsz := Lib.hid (show k + 1 = vsize n by unfold vsize; rw [hv.out.1, vput_small m hlt, List.length_append, hkl]; rfl)
      clear hcell hkl
      go_wp2_with (at_builtin; refine app rfl (.tmp 16) (.tmp 19) rfl rfl (oo.alloc _) rfl rfl (Bs.new (Nat.lt_succ_self _) HC.out) (by omega) (Nat.le_trans hb.size (by simp)) ?_; intro A2 c2 w2 o2 g2 _; have b2 : Below w.heap.size w w2 := Own.grown (oo.alloc _) (hb.alloc hb.size _) g2)
      go_ret
      refine ⟨A2, c2, by rw [← hsz.out]; rfl, ?_, b2⟩
      rw [← hsz.out, hfin.out]
      exact o2
    · have hcell : (#[Value.int .u8 ((m : Int) % 128 + 128)] : Array Value).toList.take [byteN (m % 128 + 128)].length = [byteN (m % 128 + 128)].map bv := by
        simp [bv, byteN_toNat]; omega
      have HC := Lib.hid hcell
      have hnx := hv.out.next hlt
      have hk8 : k ≤ 8 := by have := hnx.2.2; rw [List.length_append, hkl] at this; simp at this; omega
      have HX := Lib.hid hnx
      clear hcell hkl hnx
      go_wp2_with (at_builtin; refine app rfl (.tmp 7) (.tmp 12) rfl rfl (oo.alloc _) rfl rfl (Bs.new (Nat.lt_succ_self _) HC.out) (by omega) (Nat.le_trans hb.size (by simp)) ?_; intro A2 c2 w2 o2 g2 _; have b2 : Below w.heap.size w w2 := Own.grown (oo.alloc _) (hb.alloc hb.size _) g2)
      go_roundw
      case rel => exact ⟨m / 128, k + 1, A2, c2, _, by go_num, rfl, by omega, HX, o2, b2⟩
      case measure => simp [intOf]; omega
end Go.Proofs.Ytcgkoojegopfnaa
