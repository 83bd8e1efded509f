/- The walk of disk.Bytes. -/
import Derived.Test.YtcgkoojegopfnaaDiskC
import Derived.Laws.CopyOwn
namespace Go.Proofs.Ytcgkoojegopfnaa
open Go.RowKit

theorem Own.whole {w : World} {base n g : Nat} {l : List UInt8} (h : Own w base (some ⟨g, 0, none⟩) n n l) : w.heap[g]? = some (.cells (l.map bv).toArray 5 (0, 0)) := by
  obtain ⟨hn, hlen, hv⟩ := h
  rcases hv with ⟨hv, _⟩ | ⟨k, cap, cur, hv, _, hg, _, _, hsz, ht⟩
  · simp at hv
  · injection hv with h1 _ h3
    injection h1 with h1
    injection h1 with h1
    subst h1 h3
    rw [Nat.mul_one] at hsz ht
    rw [List.take_of_length_le (by simp; omega)] at ht
    rw [hg, ← ht]
theorem Own.of_block {w : World} {base n g : Nat} {l : List UInt8} (hg : w.heap[g]? = some (.cells (l.map bv).toArray 5 (0, 0))) (hb : base ≤ g) (hn : l.length = n) (hm : n ≤ 1000000) : Own w base (some ⟨g, 0, none⟩) n n l :=
  ⟨hn, by rw [List.length_map, hn, Nat.mul_one], .inr ⟨g, n, (l.map bv).toArray, rfl, hb, hg, Nat.le_refl _, by unfold maxLen; omega, by simp [hn], by rw [Nat.mul_one, ← hn, List.take_of_length_le (by simp)]⟩⟩

theorem Own.src {w : World} {base n c : Nat} {A : Option Addr} {l : List UInt8} (h : Own w base A n c l) : 0 < (l.map bv).length → ∃ ad, A = some ad ∧ ∀ j v, (l.map bv)[j]? = some v → w.cell? (ad.add j) = some v := by
  intro hl
  obtain ⟨b, off, rfl, _, hc⟩ := h.bs (by simpa using hl)
  refine ⟨_, rfl, fun j v hj => ?_⟩
  have hjl : j < l.length := by have := (List.getElem?_eq_some_iff.1 hj).1; simpa using this
  rw [Addr.add_lit, hc j hjl, ← hj]
  simp [hjl, bv]
theorem splice_all (l : List UInt8) (n : Nat) (h : l.length = n) : splice ((List.replicate n (0 : UInt8)).map bv) 0 (l.map bv) = l.map bv := by
  unfold splice
  rw [List.take_zero, List.nil_append, List.drop_of_length_le (by simp [h]), List.append_nil]
theorem info8 : (Try.prog.info? 5).map (·.size) = some 1 := by kernel_rfl

set_option maxRecDepth 10000 in
set_option maxHeartbeats 800000 in
theorem bytes_any (base g : Nat) (q : Option Nat) (d : Dsk) (w : World) (hd : Dk w base g q d) :
    Calls Try.prog 16 #[.pointer (some ⟨g, 0, none⟩)] w (IsBytes w d.b) := by
  obtain ⟨hg, hok, A, n, c, hq, hb, ho⟩ := hd
  have hn64 : n ≤ 65536 := by have := hok.2; have := ho.1; omega
  have HN := Lib.hid ho.1
  clear hq hok
  have c0 := hb.cell 0
  simp only [dCells, List.getElem?_toArray, List.getElem?_cons_zero] at c0
  have HL := Lib.hid (show (d.b.map bv).length = Nat.min n n by rw [List.length_map, ho.1]; exact (Nat.min_self n).symm)
  have HFIT := Lib.hid (show 0 + (d.b.map bv).length ≤ ((List.replicate n (0 : UInt8)).map bv).length by simp [ho.1])
  have HONE := Lib.hid (oneCell_bv d.b)
  have HSP := Lib.hid (splice_all d.b n ho.1)
  obtain ⟨bs, hbs⟩ : ∃ bs : List Value, d.b.map bv = bs := ⟨_, rfl⟩
  have hsrc : ∀ w2, Below w.heap.size w w2 → 0 < (d.b.map bv).length → ∃ ad, A = some ad ∧ ∀ j v, (d.b.map bv)[j]? = some v → w2.cell? (ad.add j) = some v := fun w2 b2 => Own.src (show Own w2 base A n c d.b from ho.step b2)
  rw [hbs] at HL HFIT HONE HSP hsrc
  have HSRC := Lib.hid hsrc
  have HBS := Lib.hid hbs
  clear hbs hsrc
  obtain ⟨zs, hzs⟩ : ∃ zs : List Value, (List.replicate n (0 : UInt8)).map bv = zs := ⟨_, rfl⟩
  rw [hzs] at HFIT HSP
  have HZS := Lib.hid hzs
  clear hzs
  go_enter Try.func16, Try.ntmps16
  go_wp2_with (first
    | (at_make; refine mk rfl (.tmp 8) (.tmp 8) rfl .i64 .i64 _ _ n rfl rfl rfl rfl (by omega) (Nat.le_refl _) ?_; intro w2 o2 g2; have b2 : Below w.heap.size w w2 := (Below.refl _ _).grown g2 (Nat.le_refl _) (by simp); have c0' := (hb.below b2 hb.lt).cell 0; have W2 := Lib.hid (show w2.heap[w.heap.size]? = some (.cells zs.toArray 5 (0, 0)) by rw [← HZS.out]; exact o2.whole); have S2 := Lib.hid (show 0 < bs.length → (some ⟨w.heap.size, 0, none⟩ : Option Addr) = some ⟨w.heap.size, 0, none⟩ ∧ ∃ ad, A = some ad ∧ ∀ j v, bs[j]? = some v → w2.cell? (ad.add j) = some v from fun h => ⟨rfl, HSRC.out w2 b2 h⟩); clear o2 g2 c0; simp only [dCells, List.getElem?_toArray, List.getElem?_cons_zero] at c0')
    | (with_reducible refine wpList_copy_splice rfl (.tmp 10) (.tmp 14) 22 22 rfl 5 Try.underlying22 info8 (some ⟨w.heap.size, 0, none⟩) A n n n c rfl rfl w.heap.size 0 zs 5 W2.out bs HL.out S2.out HFIT.out HONE.out w.heap.size w b2 (Nat.le_refl _) ?_; intro w3 H3 b3))
  go_ret
  refine ⟨_, n, n, rfl, Own.of_block ?_ (Nat.le_refl _) HN.out (by omega), b3⟩
  rw [HBS.out, H3.out, HSP.out]
end Go.Proofs.Ytcgkoojegopfnaa
