/- The walk of varint.Put. -/
import Derived.Test.YtaaibgbblehngaaVintC
namespace Go.Proofs.Ytaaibgbblehngaa
open Go.RowKit

theorem or128_all : ∀ x : Fin 256, Nat.lor x.val 128 = x.val % 128 + 128 := by decide +kernel
theorem and127_all : ∀ x : Fin 256, Nat.land x.val 127 = x.val % 128 := by decide +kernel
theorem u8_or128 (m : Nat) : bits .or .u8 ((m : Int) % 256) 128 = ((byteN (m % 128 + 128)).toNat : Int) := by
  rw [u8_or _ _ (by omega) (by omega) (by omega) (by omega), byteN_toNat]
  have h : Nat.lor (m % 256) 128 = m % 256 % 128 + 128 := or128_all ⟨m % 256, by omega⟩
  have e : ((m : Int) % 256).toNat = m % 256 := by omega
  rw [e]
  show ((Nat.lor (m % 256) 128 : Nat) : Int) = _
  rw [h]
  omega
theorem u8_and127 (b : UInt8) : bits .and .u8 (b.toNat : Int) 127 = ((byteN (b.toNat % 128)).toNat : Int) := by
  have hb := b.toNat_lt
  rw [u8_and _ _ (by omega) (by omega) (by omega) (by omega), byteN_toNat]
  have h : Nat.land b.toNat 127 = b.toNat % 128 := and127_all ⟨b.toNat, hb⟩
  show ((Nat.land ((b.toNat : Int).toNat) 127 : Nat) : Int) = _
  rw [Int.toNat_natCast, h]
  omega

def PutV (w : World) (n : Nat) (e : Ending) (w' : World) : Prop :=
  ∃ A c, e = .returned (.slice A (vsize n) c) ∧ Own w' w.heap.size A (vsize n) c (vput n) ∧ Below w.heap.size w w'

set_option maxRecDepth 10000 in
set_option maxHeartbeats 400000 in
theorem vput_any (n : Nat) (w : World) (h : Hid (n < 18446744073709551616)) :
    Calls Try.prog 15 #[.int .u64 n] w (PutV w n) := by
  have hni : (n : Int) ≤ 18446744073709551615 := by have := h.out; omega
  go_enter Try.func15, Try.ntmps15
  go_wp2_with fail
  refine (size_any n _ h).mono ?_
  rintro e w1 ⟨rfl, rfl⟩
  have hle := vsize_le n
  have hpos := vsize_pos n
  obtain ⟨s, hs⟩ : ∃ s, vsize n = s + 1 := ⟨vsize n - 1, by omega⟩
  have HS := Lib.hid hs
  rw [hs]
  have hs9 : s ≤ 9 := by omega
  have hfin := Lib.hid (hib_vput n s h.out hs)
  clear hs hle hpos
  go_wp2_with (at_make; refine mk rfl (.tmp 8) (.tmp 8) rfl .i64 .i64 _ _ (s + 1) rfl rfl rfl rfl (by omega) (Nat.le_refl _) ?_; intro w2 o2 g2; have b2 : Below w.heap.size w w2 := (Below.refl _ _).grown g2 (Nat.le_refl _) (by simp))
  go_loopw [0, 5, 11] (fun x _ i wr => ∃ k : Nat, i = .int .i64 k ∧ k ≤ s + 1 ∧ x = .int .u64 (n / 128 ^ k : Nat) ∧ Own wr w.heap.size (some ⟨w.heap.size, 0, none⟩) (s + 1) (s + 1) (hib n k ++ List.replicate (s + 1 - k) 0) ∧ Below w.heap.size w wr) (fun _ _ i _ => s + 1 - (intOf i).toNat)
  case atStart => exact ⟨0, rfl, by omega, by simp, by simpa [hib] using o2, b2⟩
  case round =>
    obtain ⟨k, rfl, hk, rfl, oo, hb⟩ := hrel
    have hdm : ((n / 128 ^ k : Nat) : Int) ≤ 18446744073709551615 := by have := Nat.div_le_self n (128 ^ k); have := h.out; omega
    by_cases hlt : k < s + 1
    · have fk := oo.free k
      have hor := u8_or128 (n / 128 ^ k)
      have os := oo.set k (byteN (n / 128 ^ k % 128 + 128))
      rw [show s + 1 - k = (s + 1 - (k + 1)) + 1 by omega, hib_set] at os
      have ck := oo.cell k (by have := oo.1; omega)
      have HD := Lib.hid (show n / 128 ^ k / 128 = n / 128 ^ (k + 1) by rw [Nat.div_div_eq_div_mul, Nat.pow_succ])
      generalize n / 128 ^ k = m at *
      go_wp2
      go_roundw
      case rel => exact ⟨k + 1, by go_num, by omega, by rw [← HD.out]; go_num, os, hb.setCell (by simp) _⟩
      case measure => simp [intOf]; omega
    · obtain rfl : k = s + 1 := by omega
      rw [Nat.sub_self, List.replicate_zero, List.append_nil] at oo
      have ck := oo.cell s (by rw [hib_length]; omega)
      have fk := oo.free s
      have hg : (hib n (s + 1))[s]'(by rw [hib_length]; omega) = byteN (n / 128 ^ s % 128 + 128) := by
        have := hib_getD n (s + 1) s (by omega)
        rw [List.getElem?_eq_getElem (by rw [hib_length]; omega)] at this
        exact Option.some.inj this
      rw [hg] at ck
      have hand := u8_and127 (byteN (n / 128 ^ s % 128 + 128))
      have he : byteN ((byteN (n / 128 ^ s % 128 + 128)).toNat % 128) = byteN (n / 128 ^ s % 128) := byteN_eq (by rw [byteN_toNat, byteN_toNat]; omega)
      rw [he] at hand
      have os := oo.set s (byteN (n / 128 ^ s % 128))
      rw [hfin.out] at os
      clear he hg hlt
      go_wp2
      go_ret
      exact ⟨some ⟨w.heap.size, 0, none⟩, s + 1, by rw [HS.out]; rfl, by rw [HS.out]; exact os, hb.setCell (by simp) _⟩
end Go.Proofs.Ytaaibgbblehngaa
