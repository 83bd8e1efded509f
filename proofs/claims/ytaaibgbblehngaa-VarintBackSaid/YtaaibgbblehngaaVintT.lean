/- The walk of the reference's Take. -/
import Derived.Test.YtaaibgbblehngaaVintR
import Derived.Test.YtaaibgbblehngaaStr
import Derived.Deep.RegionHeld3
import Derived.Deep.RegionWith
namespace Go.Proofs.Ytaaibgbblehngaa
open Go.RowKit

/-- 'string(b)', at this program's tables. -/
theorem conv {w : World} {B n c : Nat} {A : Option Addr} {l : List UInt8} (hn : l.length = n) (hA : Bs w B A l) : (convert 22 9 (.slice A n c)).run Try.prog w = .ok (.string (strOf l)) w :=
  run_string_of _ _ _ Try.underlying22 Try.underlying5 Try.underlying9 hn hA

theorem vval_snoc (b : List UInt8) (k : Nat) (h : k < b.length) : vval (b.take (k + 1)) = vval (b.take k) + (b.getD k 0).toNat % 128 * 128 ^ k := by
  rw [List.take_succ_eq_append_getElem h, vval_append, List.getD_eq_getElem?_getD, List.getElem?_eq_getElem h, List.length_take, Nat.min_eq_left (by omega)]
  simp only [vval, Option.getD_some, Nat.mul_zero, Nat.add_zero]
  rw [Nat.mul_comm]

theorem wrap_u64_nat (n : Nat) : IntKind.u64.wrap (n : Int) = ((n % 18446744073709551616 : Nat) : Int) := by
  rw [IntKind.wrap_u64]; omega

theorem rgroup (v q k : Nat) : IntKind.u64.wrap (((v % 18446744073709551616 : Nat) : Int) + IntKind.u64.wrap ((q : Int) % 128 * 2 ^ (7 * k))) = (((v + q % 128 * 128 ^ k) % 18446744073709551616 : Nat) : Int) := by
  have e1 : (2 : Int) ^ (7 * k) = ((128 ^ k : Nat) : Int) := by rw [Int.pow_mul]; norm_cast
  have e0 : (q : Int) % 128 = ((q % 128 : Nat) : Int) := by omega
  rw [e1, e0, ← Int.natCast_mul, wrap_u64_nat, ← Int.natCast_add, wrap_u64_nat, ← Nat.add_mod]

set_option maxRecDepth 10000 in
set_option maxHeartbeats 1600000 in
theorem rtake_any (A : Option Addr) (b : List UInt8) (n c : Nat) (w : World) (hn : b.length = n) (hnc : n ≤ c) (hm : n ≤ 1000000) (hA : Bs w w.heap.size A b) :
    Calls Try.prog 23 #[.slice A n c] w fun e w' => e = .returned (.tuple #[.int .u64 ((vtake b).1 : Nat), .int .i64 ((vtake b).2.1 : Nat), .int .i64 ((vtake b).2.2 : Nat)]) ∧ Below w.heap.size w w' := by
  have HN := Lib.hid hn
  clear hn
  go_enter Try.func23, Try.ntmps23
  go_wp2_with fail
  go_loop [5, 6] (fun a i => ∃ k v : Nat, i = .int .i64 k ∧ a = .int .u64 v ∧ k ≤ 10 ∧ k ≤ n ∧ Hid (v = vval (b.take k) % 18446744073709551616 ∧ ∀ i, i < k → 128 ≤ (b.getD i 0).toNat)) (fun _ i => 10 - (intOf i).toNat)
  case atStart => exact ⟨0, 0, rfl, rfl, by omega, by omega, Lib.hid ⟨rfl, fun i hi => absurd hi (by omega)⟩⟩
  case round =>
    obtain ⟨k, v, rfl, rfl, hk, hkn, hv⟩ := hrel
    by_cases h10 : k < 10
    · by_cases hlt : k < n
      · have hA0 := hA
        obtain ⟨g, off, rfl, hg, hc⟩ := hA (by rw [HN.out]; omega)
        have ck := hc k (by rw [HN.out]; omega)
        have hvs := vval_snoc b k (by rw [HN.out]; omega)
        have hrg := rgroup (vval (b.take k)) (b.getD k 0).toNat k
        rw [← hvs, ← hv.out.1] at hrg
        have hql := (b.getD k 0).toNat_lt
        by_cases hsm : (b.getD k 0).toNat < 128
        · have href := Lib.hid (vtake_ref b k (by rw [HN.out]; omega) hv.out.2 hsm)
          have hzl := Lib.hid (show vval (b.take (k + 1)) % 18446744073709551616 < 18446744073709551616 from Nat.mod_lt _ (by decide))
          have hbl := Lib.hid (show (b.take (k + 1)).length = k + 1 by rw [List.length_take]; have := HN.out; omega)
          have s1 := Lib.hid (hA0.take (k + 1))
          clear hc hA hA0 hvs hv
          generalize vval (b.take (k + 1)) % 18446744073709551616 = z at *
          generalize (b.getD k 0).toNat = q at *
          have hkc : k + 1 ≤ c := by omega
          have b0 : Below w.heap.size w w.drew := (Below.refl _ _).drew
          have h0 : (convert 22 9 (.slice (some ⟨g, off, none⟩) (k + 1) c)).run Try.prog w.drew = .ok (.string (strOf (b.take (k + 1)))) w.drew := conv hbl.out (s1.out.below b0)
          have hse := str_eq (vput z) (b.take (k + 1))
          have hi1 : (0 : Int) ≤ (k : Int) + 1 := by omega
          have hi2 : (k : Int) + 1 ≤ (c : Int) := by omega
          have hi3 : IntKind.i64.wrap ((k : Int) + 1) = (k : Int) + 1 := IntWalk.i64_in _ (by omega)
          have hi4 : ((k : Int) + 1).toNat = k + 1 := by omega
          go_wp2_with fail
          by_cases heq : vput z = b.take (k + 1)
          · have HF := Lib.hid (show vtake b = (z, k + 1, 0) by rw [href.out, if_pos heq])
            have hdec : (!(vput z == b.take (k + 1))) = false := by rw [Bool.not_eq_false', beq_iff_eq]; exact heq
            clear heq
            go_region_with (first | (go_at_call 24; refine (rput_any z _ hzl).mono ?_; rintro e w1 ⟨A1, c1, rfl, o1, d1⟩; have b1 : Below w.heap.size w w1 := b0.trans d1; have h1 : (convert 22 9 (.slice (some ⟨g, off, none⟩) (k + 1) c)).run Try.prog w1 = .ok (.string (strOf (b.take (k + 1)))) w1 := conv hbl.out (s1.out.below b1); have h2 : (convert 22 9 (.slice A1 (vsize z) c1)).run Try.prog w1 = .ok (.string (strOf (vput z))) w1 := conv rfl o1.bs))
            all_goals
              go_wp2
              go_ret3
              exact ⟨by rw [HF.out]; rfl, b1⟩
          · have HF := Lib.hid (show vtake b = (0, 0, 3) by rw [href.out, if_neg heq])
            have hdec : (!(vput z == b.take (k + 1))) = true := by rw [Bool.not_eq_true', beq_eq_false_iff_ne]; exact heq
            clear heq
            go_region_with (first | (go_at_call 24; refine (rput_any z _ hzl).mono ?_; rintro e w1 ⟨A1, c1, rfl, o1, d1⟩; have b1 : Below w.heap.size w w1 := b0.trans d1; have h1 : (convert 22 9 (.slice (some ⟨g, off, none⟩) (k + 1) c)).run Try.prog w1 = .ok (.string (strOf (b.take (k + 1)))) w1 := conv hbl.out (s1.out.below b1); have h2 : (convert 22 9 (.slice A1 (vsize z) c1)).run Try.prog w1 = .ok (.string (strOf (vput z))) w1 := conv rfl o1.bs))
            all_goals
              go_wp2
              go_ret3
              exact ⟨by rw [HF.out]; rfl, b1⟩
        · have hall := Lib.hid (show vval (b.take (k + 1)) % 18446744073709551616 = vval (b.take (k + 1)) % 18446744073709551616 ∧ ∀ i, i < k + 1 → 128 ≤ (b.getD i 0).toNat by
            refine ⟨rfl, fun i hi => ?_⟩
            by_cases he : i = k
            · subst he; omega
            · exact hv.out.2 i (by omega))
          clear hc hA hA0 hvs
          generalize hz : vval (b.take (k + 1)) % 18446744073709551616 = z at *
          have HZ := Lib.hid hz
          clear hz
          generalize (b.getD k 0).toNat = q at *
          go_wp2_with fail
          go_round
          case rel => exact ⟨k + 1, z, by go_num, rfl, by omega, by omega, Lib.hid ⟨HZ.out.symm, hall.out.2⟩⟩
          case measure => simp [intOf]; omega
      · obtain rfl : k = n := by omega
        have hf := Lib.hid ((vtake_short b).2 ⟨fun x hx => by
          obtain ⟨i, hi, rfl⟩ := List.getElem_of_mem hx
          have h := hv.out.2 i (by have := HN.out; omega)
          rwa [List.getD_eq_getElem?_getD, List.getElem?_eq_getElem hi] at h, by rw [HN.out]; omega⟩)
        go_wp2_with fail
        go_ret3
        exact ⟨by rw [hf.out]; rfl, Below.refl _ _⟩
    · obtain rfl : k = 10 := by omega
      have hf : vtake b = (0, 0, 3) := by
        rcases vtake_err b with h | h | h
        · obtain ⟨h1, _, h3, _, _, _, h7, _⟩ := vtake_ok b h
          have := hv.out.2 ((vtake b).2.1 - 1) (by omega)
          omega
        · have := ((vtake_short b).1 h).2
          rw [HN.out] at this
          omega
        · exact h
      have HF := Lib.hid hf
      clear hf
      go_wp2_with fail
      go_ret3
      exact ⟨by rw [HF.out]; rfl, Below.refl _ _⟩
end Go.Proofs.Ytaaibgbblehngaa
