/- The walk of the law SumTurned. -/
import Derived.Test.YtcinicmcfoioeaaSumB
import Derived.Test.YtcinicmcfoioeaaApp
import Derived.Deep.RegionHeld3
namespace Go.Proofs.Ytcinicmcfoioeaa
open Go.RowKit

theorem u8_xor_bytes (a b : UInt8) : bits .xor .u8 (a.toNat : Int) (b.toNat : Int) = ((a ^^^ b).toNat : Int) := by
  rw [u8_xor_nat _ _ a.toNat_lt b.toNat_lt, UInt8.toNat_xor]

theorem sumTurned_walk (w : World) (A : Option Addr) (l : List UInt8) (n cap : Nat) (hn : l.length = n) (hcap : n ≤ cap) (hm : cap ≤ maxLen) (hA : Bs w w.heap.size A l)
    (at_ : Int) (hat : -9223372036854775808 ≤ at_ ∧ at_ ≤ 9223372036854775807) (by_ : Int) (hby : 0 ≤ by_ ∧ by_ ≤ 255) :
    Calls Try.prog 5 #[.slice A n cap, .int .i64 at_, .int .u8 by_] w fun e w' => e = .returned (.bool true) ∧ Below w.heap.size w w' := by
  unfold maxLen at hm
  have HN := Lib.hid hn
  clear hn
  have hT := hA.take 5000
  have hl : (l.take 5000).length ≤ 5000 := by simp; omega
  generalize hl' : l.take 5000 = t at *
  obtain ⟨y, rfl⟩ : ∃ y : UInt8, by_ = (y.toNat : Int) := ⟨UInt8.ofNat by_.toNat, by rw [UInt8.toNat_ofNat']; omega⟩
  go_enter Try.func5, Try.ntmps5
  go_wp2_with fail
  refine (shown12_any _).mono ?_
  rintro e w1 ⟨rfl, b1⟩
  go_wp2_with fail
  refine (short12_any A l n cap _ HN.out hcap hm).mono ?_
  rintro e w2 ⟨rfl, rfl⟩
  rw [hl']
  have he := Ob.empty (w := w1) (base := w.heap.size) (E := 5) b1.size
  have b1' := b1.alloc b1.size (.cells #[] 5)
  have s1 := hT.below b1'
  go_wp2_with (at_builtin; refine app rfl (.tmp 12) (.tmp 14) rfl rfl he rfl rfl s1 (by omega) b1'.size ?_; intro A3 c3 w3 o3 g3 _; simp only [Nat.zero_add, List.nil_append] at o3; have b3 := Own.grown he b1' g3)
  clear s1 he g3
  have u3 := o3.bs
  refine (sum_any A3 t _ c3 _ rfl u3 (by omega)).mono ?_
  rintro e w4 ⟨rfl, b4⟩
  have o4 := o3.step b4
  have u4 := o4.bs
  have b4' := b3.trans (b4.mono b3.size)
  clear o3 u3 b3 b4
  by_cases hin : 0 ≤ at_ ∧ at_ < (t.length : Int)
  · obtain ⟨k, rfl⟩ := Int.eq_ofNat_of_zero_le hin.1
    have hk : k < t.length := by omega
    obtain ⟨g, rfl, hg1, hg2⟩ := o4.at_ (by omega)
    have c4 := o4.cell k hk
    have f4 := o4.free k
    have hx := u8_xor_bytes t[k] y
    have hx2 : bits .xor .u8 ((t[k].toNat ^^^ y.toNat : Nat) : Int) (y.toNat : Int) = (t[k].toNat : Int) := by
      rw [← UInt8.toNat_xor, u8_xor_bytes, UInt8.xor_assoc, UInt8.xor_self, UInt8.xor_zero]
    go_wp2_with fail
    have o5 := o4.set k (t[k] ^^^ y)
    rw [UInt8.toNat_xor] at o5
    have hl5 := Lib.hid (show (t.set k (t[k] ^^^ y)).length = t.length by simp)
    refine (is_any _ (t.set k (t[k] ^^^ y)) _ c3 _ _ hl5.out o5.bs (by rw [hl5.out]; omega)).mono ?_
    rintro e w5 ⟨rfl, b5⟩
    have b5' : Below w.heap.size w w5 := (b4'.setCell (by simpa using hg1) _).trans (b5.mono (by have := b4'.size; simp; omega))
    have o6 := o5.step b5
    have e5 : (adler 1 (t.set k (t[k] ^^^ y)) == adler 1 t) = ((y.toNat : Int) == 0) := by
      rw [Bool.eq_iff_iff, beq_iff_eq, beq_iff_eq, adler_set _ _ _ hk, xor_same, ← UInt8.toNat_inj]
      simp
    rw [e5]
    have c6 := o6.cell k (by simp; omega)
    rw [List.getElem_set_self, UInt8.toNat_xor] at c6
    have f6 := o6.free k
    have o7 := o6.set k t[k]
    rw [List.set_set, List.set_getElem_self] at o7
    clear o4 c4 f4 b4' o5 e5 hl5 hx u4
    by_cases hk1 : k + 1 < t.length
    · have c6' := o6.cell (k + 1) (by simp; omega)
      rw [List.getElem_set_ne (by omega)] at c6'
      have f6' := o6.free (k + 1)
      go_wp2_with fail
      have o8 := (o7.set k t[k + 1]).set (k + 1) t[k]
      have b8 : Below w.heap.size w _ := ((b5'.setCell (p := ⟨g, k, none⟩) (by simpa using hg1) (.int .u8 (t[k].toNat : Int))).setCell (p := ⟨g, k, none⟩) (by simpa using hg1) (.int .u8 (t[k + 1].toNat : Int))).setCell (p := ⟨g, k + 1, none⟩) (by simpa using hg1) (.int .u8 (t[k].toNat : Int))
      generalize (((w5.setCell ⟨g, k, none⟩ (.int .u8 (t[k].toNat : Int))).setCell ⟨g, k, none⟩ (.int .u8 (t[k + 1].toNat : Int))).setCell ⟨g, k + 1, none⟩ (.int .u8 (t[k].toNat : Int))) = W at o8 b8 ⊢
      have hl8 := Lib.hid (show ((t.set k t[k + 1]).set (k + 1) t[k]).length = t.length by simp)
      have e8 : (adler 1 ((t.set k t[k + 1]).set (k + 1) t[k]) == adler 1 t) = ((t[k + 1].toNat : Int) == (t[k].toNat : Int)) := by
        rw [Bool.eq_iff_iff, beq_iff_eq, beq_iff_eq, adler_swap _ _ _ hk1, ← UInt8.toNat_inj]
        omega
      have E8 := Lib.hid e8
      clear e8
      have c8 := o8.cell k (by simp; omega)
      rw [List.getElem_set_ne (by omega), List.getElem_set_self] at c8
      have o9 : Own W.drew w.heap.size (some ⟨g, 0, none⟩) t.length c3 ((t.set k t[k + 1]).set (k + 1) t[k]) := o8
      have b9 := b8.drew
      have hg3 := o9.glt
      clear o6 c6 f6 o7 c6' f6' b5' hx2
      go_region_held3 (fun w' => w'.cell? ⟨g, k, none⟩ = some (.int .u8 (t[k + 1].toNat : Int)) ∧ Below w.heap.size w w')
        (first | exact ⟨c8, b9⟩ | exact ⟨c10, b10⟩)
        (first | (go_at_call 18; refine (is_any _ _ _ c3 _ _ hl8.out o9.bs (by rw [hl8.out]; omega)).mono ?_; rintro e w10 ⟨rfl, d10⟩; have b10 : Below w.heap.size w w10 := b9.trans (d10.mono b9.size); have c10 : w10.cell? ⟨g, k, none⟩ = some (.int .u8 (t[k + 1].toNat : Int)) := (d10.cell hg3).trans c8; rw [E8.out]))
      go_wp2
      go_ret
      exact ⟨by simp, b10⟩
    · go_wp2
      go_ret
      exact ⟨by simp, b5'.setCell (by simpa using hg1) _⟩
  · by_cases hneg : at_ < 0
    all_goals
      go_wp2_with fail
      refine (is_any A3 t _ c3 _ _ rfl u4 (by omega)).mono ?_
      rintro e w5 ⟨rfl, b5⟩
      have b5' := b4'.trans (b5.mono b4'.size)
      rw [beq_self_eq_true]
      go_wp2
      go_ret
      exact ⟨rfl, b5'⟩
end Go.Proofs.Ytcinicmcfoioeaa
