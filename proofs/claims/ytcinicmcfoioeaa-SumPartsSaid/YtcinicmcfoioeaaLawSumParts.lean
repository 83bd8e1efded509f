/- The walk of the law SumParts. -/
import Derived.Test.YtcinicmcfoioeaaSumB
import Derived.Test.YtcinicmcfoioeaaApp
namespace Go.Proofs.Ytcinicmcfoioeaa
open Go.RowKit

theorem sumParts_walk (w : World) (A : Option Addr) (l : List UInt8) (n cap : Nat) (hn : l.length = n) (hcap : n ≤ cap) (hm : cap ≤ maxLen) (hA : Bs w w.heap.size A l)
    (A2 : Option Addr) (l2 : List UInt8) (n2 cap2 : Nat) (hn2 : l2.length = n2) (hcap2 : n2 ≤ cap2) (hm2 : cap2 ≤ maxLen) (hA2 : Bs w w.heap.size A2 l2) :
    Calls Try.prog 4 #[.slice A n cap, .slice A2 n2 cap2] w fun e w' => e = .returned (.bool true) ∧ Below w.heap.size w w' := by
  unfold maxLen at hm hm2
  have HN := Lib.hid hn
  have HN2 := Lib.hid hn2
  clear hn hn2
  have hT := hA.take 5000
  have hT2 := hA2.take 5000
  have hl : (l.take 5000).length ≤ 5000 := by simp; omega
  have hl2 : (l2.take 5000).length ≤ 5000 := by simp; omega
  generalize hl' : l.take 5000 = t at *
  generalize hl2' : l2.take 5000 = t2 at *
  go_enter Try.func4, Try.ntmps4
  go_wp2_with fail
  refine (shown12_any _).mono ?_
  rintro e w1 ⟨rfl, b1⟩
  go_wp2_with fail
  refine (short12_any A l n cap _ HN.out hcap hm).mono ?_
  rintro e w2 ⟨rfl, rfl⟩
  rw [hl']
  go_wp2_with fail
  refine (short12_any A2 l2 n2 cap2 _ HN2.out hcap2 hm2).mono ?_
  rintro e w2 ⟨rfl, rfl⟩
  rw [hl2']
  have s1 := hT.step b1
  have r1 := hT2.step b1
  have he := Ob.empty (w := w1) (base := w.heap.size) (E := 5) b1.size
  have s2 := s1.step ((Below.refl _ w1).alloc (Nat.le_refl _) (.cells #[] 5))
  have b1' := b1.alloc b1.size (.cells #[] 5)
  go_wp2_with (first
    | (at_builtin; refine app rfl (.tmp 13) (.tmp 14) rfl rfl he rfl rfl s2 (by omega) b1'.size ?_; intro A3 c3 w3 o3 g3 _; simp only [Nat.zero_add, List.nil_append] at o3; have b3 := Own.grown he b1' g3; have r3 := hT2.below b3)
    | (at_builtin; refine app rfl (.tmp 15) (.tmp 16) rfl rfl o3 rfl rfl r3 (by omega) b3.size ?_; intro A4 c4 w4 o4 g4 _; have b4 := Own.grown o3 b3 g4))
  have S4 := (hT.below b4).more b4.size
  have R4 := (hT2.below b4).more b4.size
  have u4 := o4.bs
  have hlen : (t ++ t2).length = t.length + t2.length := List.length_append
  have HL := Lib.hid hlen
  clear hlen
  refine (sum_any A t _ cap _ rfl S4 (by omega)).mono ?_
  rintro e w5 ⟨rfl, b5⟩
  have S5 := S4.step b5
  have R5 := R4.step b5
  have u5 := u4.step b5
  have d5 := b4.trans (b5.mono b4.size)
  have hs := adler_bd 1 t
  go_wp2_with fail
  refine (go_any _ A2 t2 _ cap2 _ rfl hs.1 hs.2 R5 (by omega)).mono ?_
  rintro e w6 ⟨rfl, b6⟩
  have S6 := S5.step b6
  have u6 := u5.step b6
  have d6 := d5.trans (b6.mono d5.size)
  have a1 := adler_append 1 t t2
  rw [a1]
  clear a1
  go_wp2_with fail
  refine (sum_any A4 (t ++ t2) _ c4 _ HL.out u6 (by have := HL.out; omega)).mono ?_
  rintro e w7 ⟨rfl, b7⟩
  have S7 := S6.step b7
  have d7 := d6.trans (b7.mono d6.size)
  go_wp2_with fail
  refine (go_any _ A t _ cap _ rfl (by omega) (by omega) S7 (by omega)).mono ?_
  rintro e w8 ⟨rfl, b8⟩
  have d8 := d7.trans (b8.mono d7.size)
  go_wp2_with fail
  refine (go_any _ none [] 0 0 _ rfl hs.1 hs.2 Bs.nil (by decide)).mono ?_
  rintro e w9 ⟨rfl, b9⟩
  have d9 := d8.trans (b9.mono d8.size)
  rw [adler_append, List.append_nil]
  go_wp2
  go_ret
  exact ⟨rfl, d9⟩
end Go.Proofs.Ytcinicmcfoioeaa
