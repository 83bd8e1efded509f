/- The walk of the law SumFirst. -/
import Derived.Test.YtcinicmcfoioeaaSumB
import Derived.Test.YtcinicmcfoioeaaApp
namespace Go.Proofs.Ytcinicmcfoioeaa
open Go.RowKit

theorem sumFirst_walk (w : World) (A : Option Addr) (l : List UInt8) (n cap : Nat) (hn : l.length = n) (hcap : n ≤ cap) (hm : cap ≤ maxLen) (hA : Bs w w.heap.size A l)
    (s : Int) (hs : 0 ≤ s ∧ s ≤ 4294967295) (many : Int) (hmany : -9223372036854775808 ≤ many ∧ many ≤ 9223372036854775807) :
    Calls Try.prog 6 #[.slice A n cap, .int .u32 s, .int .i64 many] w fun e w' => e = .returned (.bool true) ∧ Below w.heap.size w w' := by
  unfold maxLen at hm
  have HN := Lib.hid hn
  clear hn
  have hT := hA.take 5000
  have hl : (l.take 5000).length ≤ 5000 := by simp; omega
  generalize hl' : l.take 5000 = t at *
  have HP := Lib.hid (adler_parts s t)
  have HB := Lib.hid (adler_bd s t)
  obtain ⟨k, hk, hway⟩ : ∃ k : Nat, k ≤ 5000 ∧ ((5000 < many ∧ k = 5000) ∨ (many < 0 ∧ k = 0) ∨ (0 ≤ many ∧ many ≤ 5000 ∧ many = k)) := by
    by_cases h1 : 5000 < many
    · exact ⟨5000, by omega, .inl ⟨h1, rfl⟩⟩
    · by_cases h2 : many < 0
      · exact ⟨0, by omega, .inr (.inl ⟨h2, rfl⟩)⟩
      · exact ⟨many.toNat, by omega, .inr (.inr (by omega))⟩
  have HZ := Lib.hid (adler_zeros k (by omega))
  rcases hway with ⟨hw, hke⟩ | ⟨hw, hke⟩ | ⟨hw, hw2, rfl⟩
  · obtain ⟨e1, e2⟩ : 5000 ≤ k ∧ k ≤ 5000 := by omega
    have HC := Lib.hid (show (5000 : Int) = (k : Int) by omega)
    clear hke
    go_enter Try.func6, Try.ntmps6
    go_wp2_with fail
    refine (shown12_any _).mono ?_
    rintro e w1 ⟨rfl, b1⟩
    go_wp2_with fail
    refine (short12_any A l n cap _ HN.out hcap hm).mono ?_
    rintro e w2 ⟨rfl, rfl⟩
    rw [hl']
    have s1 := hT.step b1
    go_wp2_with fail
    refine (go_any s A t _ cap _ rfl hs.1 (by omega) s1 (by omega)).mono ?_
    rintro e w2 ⟨rfl, b2⟩
    have b2' := chain b1 b2
    have p1 := HP.out
    have p2 := HB.out
    go_wp2_with (at_make; refine mk rfl (.tmp 19) (.tmp 19) rfl .i64 .i64 5000 5000 k rfl rfl HC.out HC.out (by omega) b2'.size ?_; intro w3 o3 g3; have b3 : Below w.heap.size w w3 := b2'.grown g3 b2'.size (by simp))
    have u3 := o3.bs
    refine (sum_any _ (List.replicate k 0) _ _ _ (by simp) u3 (by simp; omega)).mono ?_
    rintro e w4 ⟨rfl, b4⟩
    have b4' := b3.trans (b4.mono b3.size)
    rw [HZ.out]
    have hq : ((65536 * (k : Int) + 1) / 65536 == 5000) = true := by rw [beq_iff_eq]; omega
    go_wp2
    go_ret
    exact ⟨rfl, b4'⟩
  · have e1 : k ≤ 0 := by omega
    have HC := Lib.hid (show (0 : Int) = (k : Int) by omega)
    clear hke
    go_enter Try.func6, Try.ntmps6
    go_wp2_with fail
    refine (shown12_any _).mono ?_
    rintro e w1 ⟨rfl, b1⟩
    go_wp2_with fail
    refine (short12_any A l n cap _ HN.out hcap hm).mono ?_
    rintro e w2 ⟨rfl, rfl⟩
    rw [hl']
    have s1 := hT.step b1
    go_wp2_with fail
    refine (go_any s A t _ cap _ rfl hs.1 (by omega) s1 (by omega)).mono ?_
    rintro e w2 ⟨rfl, b2⟩
    have b2' := chain b1 b2
    have p1 := HP.out
    have p2 := HB.out
    go_wp2_with (at_make; refine mk rfl (.tmp 19) (.tmp 19) rfl .i64 .i64 0 0 k rfl rfl HC.out HC.out (by omega) b2'.size ?_; intro w3 o3 g3; have b3 : Below w.heap.size w w3 := b2'.grown g3 b2'.size (by simp))
    have u3 := o3.bs
    refine (sum_any _ (List.replicate k 0) _ _ _ (by simp) u3 (by simp; omega)).mono ?_
    rintro e w4 ⟨rfl, b4⟩
    have b4' := b3.trans (b4.mono b3.size)
    rw [HZ.out]
    have hq : ((65536 * (k : Int) + 1) / 65536 == 0) = true := by rw [beq_iff_eq]; omega
    go_wp2
    go_ret
    exact ⟨rfl, b4'⟩
  · go_enter Try.func6, Try.ntmps6
    go_wp2_with fail
    refine (shown12_any _).mono ?_
    rintro e w1 ⟨rfl, b1⟩
    go_wp2_with fail
    refine (short12_any A l n cap _ HN.out hcap hm).mono ?_
    rintro e w2 ⟨rfl, rfl⟩
    rw [hl']
    have s1 := hT.step b1
    go_wp2_with fail
    refine (go_any s A t _ cap _ rfl hs.1 (by omega) s1 (by omega)).mono ?_
    rintro e w2 ⟨rfl, b2⟩
    have b2' := chain b1 b2
    have p1 := HP.out
    have p2 := HB.out
    go_wp2_with (at_make; refine mk rfl (.tmp 19) (.tmp 19) rfl .i64 .i64 k k k rfl rfl rfl rfl (by omega) b2'.size ?_; intro w3 o3 g3; have b3 : Below w.heap.size w w3 := b2'.grown g3 b2'.size (by simp))
    have u3 := o3.bs
    refine (sum_any _ (List.replicate k 0) _ _ _ (by simp) u3 (by simp; omega)).mono ?_
    rintro e w4 ⟨rfl, b4⟩
    have b4' := b3.trans (b4.mono b3.size)
    rw [HZ.out]
    have hq : ((65536 * (k : Int) + 1) / 65536 == (k : Int)) = true := by rw [beq_iff_eq]; omega
    go_wp2
    go_ret
    exact ⟨rfl, b4'⟩
end Go.Proofs.Ytcinicmcfoioeaa
