/- Frames, as plain functions: what is taken of what was put. -/
import Derived.Test.YtcinicmcfoioeaaFrame
namespace Go.Proofs.Ytcinicmcfoioeaa

theorem ftake_of (b : List UInt8) (n : Nat) (h : hd2 b = n) (h0 : 0 < n) (h1 : n ≤ 4096) (hl : n + 6 ≤ b.length) :
    ftake b = if adler 1 (b.take (n + 2)) = (beVal ((b.drop (n + 2)).take 4) : Nat) then ((b.drop 2).take n, n + 6, 0) else ([], 0, 3) := by
  unfold ftake
  rw [if_neg (by omega), h, if_neg (by omega), if_neg (by omega)]

theorem hd2_be2 (n : Nat) (r : List UInt8) (h : n < 65536) : hd2 (be2 n ++ r) = n := by
  simp only [hd2, be2, List.cons_append, List.nil_append, List.getD_cons_zero, List.getD_cons_succ, byteOf_toNat]
  omega

/-- A frame, and what stands behind it, in pieces. -/
theorem fput_parts (x r : List UInt8) : fput x ++ r = be2 x.length ++ (x ++ (be4 (adler 1 (fbody x)).toNat ++ r)) := by
  unfold fput fbody
  simp only [List.append_assoc]

theorem adler_toNat (l : List UInt8) : ((adler 1 l).toNat : Int) = adler 1 l ∧ (adler 1 l).toNat < 4294967296 := by
  have h := adler_bd 1 l
  omega

theorem ftake_fput (x r : List UInt8) (h0 : 0 < x.length) (h1 : x.length ≤ 4096) : ftake (fput x ++ r) = (x, x.length + 6, 0) := by
  have hh : hd2 (fput x ++ r) = x.length := by rw [fput_parts]; exact hd2_be2 _ _ (by omega)
  have hl : x.length + 6 ≤ (fput x ++ r).length := by rw [List.length_append, fput_length]; omega
  rw [ftake_of _ _ hh h0 h1 hl]
  have e1 : (fput x ++ r).take (x.length + 2) = fbody x := by
    unfold fput
    rw [List.append_assoc, List.take_left' (fbody_length x)]
  have e2 : ((fput x ++ r).drop (x.length + 2)).take 4 = be4 (adler 1 (fbody x)).toNat := by
    unfold fput
    rw [List.append_assoc, List.drop_left' (fbody_length x), List.take_left' (be4_length _)]
  have e3 : ((fput x ++ r).drop 2).take x.length = x := by
    rw [fput_parts, List.drop_left' (be2_length _), List.take_left' rfl]
  rw [e1, e2, e3, beVal_be4 _ (adler_toNat _).2, if_pos (adler_toNat _).1.symm]

theorem beVal_inj {a b : List UInt8} (ha : a.length = 4) (hb : b.length = 4) (h : beVal a = beVal b) : a = b := by
  rw [← be4_beVal a ha, ← be4_beVal b hb, h]

theorem getD_set_ne (l : List UInt8) (i j : Nat) (v d : UInt8) (h : i ≠ j) : (l.set i v).getD j d = l.getD j d := by
  simp [h]

/-- A frame of which a byte of the record, or of the sum, is turned is none. -/
theorem ftake_turned (x : List UInt8) (k : Nat) (by_ : UInt8) (h0 : 0 < x.length) (h1 : x.length ≤ 4096) (hk : 2 ≤ k) (hk2 : k < (fput x).length) (hb : by_ ≠ 0) :
    ftake ((fput x).set k ((fput x)[k] ^^^ by_)) = ([], 0, 3) := by
  have hv : (fput x)[k] ^^^ by_ ≠ (fput x)[k] := fun h => hb ((xor_same _ _).1 h)
  generalize hvv : (fput x)[k] ^^^ by_ = v at *
  have hl0 := fput_length x
  have hh : hd2 ((fput x).set k v) = x.length := by
    have h := hd2_be2 x.length (x ++ (be4 (adler 1 (fbody x)).toNat ++ [])) (by omega)
    rw [← fput_parts, List.append_nil] at h
    unfold hd2 at h ⊢
    rw [getD_set_ne _ _ _ _ _ (by omega), getD_set_ne _ _ _ _ _ (by omega)]
    exact h
  rw [ftake_of _ _ hh h0 h1 (by rw [List.length_set]; omega), if_neg]
  intro e
  have e1 : (fput x).take (x.length + 2) = fbody x := by unfold fput; rw [List.take_left' (fbody_length x)]
  have e2 : (fput x).drop (x.length + 2) = be4 (adler 1 (fbody x)).toNat := by unfold fput; rw [List.drop_left' (fbody_length x)]
  by_cases hlt : k < x.length + 2
  · rw [List.take_set, e1, List.drop_set, if_pos hlt, e2, List.take_of_length_le (by rw [be4_length]; omega), beVal_be4 _ (adler_toNat _).2, (adler_toNat _).1] at e
    have hkb : k < (fbody x).length := by rw [fbody_length]; exact hlt
    have h3 := (adler_set 1 (fbody x) k hkb v).1 e
    apply hv
    rw [h3]
    have h8 : (fput x)[k]? = some ((fbody x)[k]) := by
      unfold fput
      rw [List.getElem?_append_left hkb, List.getElem?_eq_getElem hkb]
    rw [List.getElem?_eq_getElem hk2] at h8
    exact (Option.some.inj h8).symm
  · rw [List.take_set, e1, List.drop_set, if_neg hlt, e2, List.take_of_length_le (by rw [List.length_set, be4_length]; omega)] at e
    rw [List.set_eq_of_length_le (by rw [fbody_length]; omega)] at e
    have h4 : beVal (be4 (adler 1 (fbody x)).toNat) = beVal ((be4 (adler 1 (fbody x)).toNat).set (k - (x.length + 2)) v) := by
      rw [beVal_be4 _ (adler_toNat _).2]
      have := (adler_toNat (fbody x)).1
      omega
    have h5 := beVal_inj (be4_length _) (by rw [List.length_set, be4_length]) h4
    have hj : k - (x.length + 2) < (be4 (adler 1 (fbody x)).toNat).length := by rw [be4_length]; omega
    have h6 : (be4 (adler 1 (fbody x)).toNat)[k - (x.length + 2)] = v := by
      have h7 : ((be4 (adler 1 (fbody x)).toNat).set (k - (x.length + 2)) v)[k - (x.length + 2)]? = some v := by
        rw [List.getElem?_set_self hj]
      rw [← h5, List.getElem?_eq_getElem hj] at h7
      exact Option.some.inj h7
    apply hv
    rw [← h6]
    have h8 : (fput x)[k]? = some ((be4 (adler 1 (fbody x)).toNat)[k - (x.length + 2)]) := by
      unfold fput
      rw [List.getElem?_append_right (by rw [fbody_length]; omega), fbody_length, List.getElem?_eq_getElem hj]
    rw [List.getElem?_eq_getElem hk2] at h8
    exact (Option.some.inj h8).symm

/-- What is too short, or a frame's beginning, goes on. -/
theorem ftake_short (p : List UInt8) (h : p.length < 2 ∨ (0 < hd2 p ∧ hd2 p ≤ 4096 ∧ p.length < hd2 p + 6)) : ftake p = ([], 0, 2) := by
  unfold ftake
  by_cases h2 : p.length < 2
  · rw [if_pos h2]
  · rcases h with h | ⟨h3, h4, h5⟩
    · exact absurd h h2
    · rw [if_neg h2, if_neg (by omega), if_pos h5]

theorem ftake_prefix (x : List UInt8) (j : Nat) (h0 : 0 < x.length) (h1 : x.length ≤ 4096) (hj : j < x.length + 6) : ftake ((fput x).take j) = ([], 0, 2) := by
  have hl0 := fput_length x
  by_cases h2 : j < 2
  · exact ftake_short _ (.inl (by rw [List.length_take]; omega))
  · refine ftake_short _ (.inr ?_)
    have h := hd2_be2 x.length (x ++ (be4 (adler 1 (fbody x)).toNat ++ [])) (by omega)
    rw [← fput_parts, List.append_nil] at h
    have hh : hd2 ((fput x).take j) = x.length := by
      rw [← h]
      unfold hd2
      simp [show 0 < j by omega, show 1 < j by omega]
    rw [hh, List.length_take]
    omega

/-- Frames one behind the other are all told, whatever stands behind that is none. -/
theorem fall_flatP (R : List (List UInt8)) (r : List UInt8) (hR : ∀ x ∈ R, 0 < x.length ∧ x.length ≤ 4096) (hr : (ftake r).2.2 ≠ 0) : fall (flatP R ++ r) = (R, (flatP R).length) := by
  induction R with
  | nil => rw [flatP_nil, List.nil_append, fall_stop r hr]; rfl
  | cons x R ih =>
    have hx := hR x List.mem_cons_self
    have hi := ih (fun y hy => hR y (List.mem_cons_of_mem _ hy))
    have ht := ftake_fput x (flatP R ++ r) hx.1 hx.2
    rw [flatP_cons, List.append_assoc, fall_next _ (by rw [ht]), ht]
    simp only
    rw [← fput_length x, List.drop_left' rfl, hi]
    simp only [List.length_append]

/-- Where the first m frames of a row end. -/
def flen (R : List (List UInt8)) (m : Nat) : Nat := (flatP (R.take m)).length
theorem flen_zero (R : List (List UInt8)) : flen R 0 = 0 := rfl
theorem flen_succ (R : List (List UInt8)) (m : Nat) (h : m < R.length) : flen R (m + 1) = flen R m + (R[m].length + 6) := by
  unfold flen
  rw [List.take_succ_eq_append_getElem h, flatP_snoc, List.length_append, fput_length]
theorem flen_all (R : List (List UInt8)) : flen R R.length = (flatP R).length := by unfold flen; rw [List.take_length]
theorem flen_mono (R : List (List UInt8)) (m d : Nat) : flen R m ≤ flen R (m + d) := by
  unfold flen
  rw [List.take_add, flatP_append, List.length_append]
  omega
theorem flen_le (R : List (List UInt8)) (m j : Nat) (h : m ≤ j) : flen R m ≤ flen R j := by
  obtain ⟨d, rfl⟩ := Nat.exists_eq_add_of_le h
  exact flen_mono R m d
theorem fends_getD (R : List (List UInt8)) (i : Nat) (h : i < R.length) : (fends R)[i]? = some (flen R (i + 1)) := by
  unfold fends flen
  simp [h]

/-- How many frames of a row are whole where it is cut at k. -/
def Whole (R : List (List UInt8)) (k m : Nat) : Prop := m ≤ R.length ∧ flen R m ≤ k ∧ (m < R.length → k < flen R (m + 1))

/-- What stands behind the whole frames of a row that is cut goes on. -/
theorem cut_short (R : List (List UInt8)) (k m : Nat) (hR : ∀ x ∈ R, 0 < x.length ∧ x.length ≤ 4096) (h : Whole R k m) : ftake (((flatP R).take k).drop (flen R m)) = ([], 0, 2) := by
  obtain ⟨h1, h2, h3⟩ := h
  have hsplit : flatP R = flatP (R.take m) ++ flatP (R.drop m) := by rw [← flatP_append, List.take_append_drop]
  have hd : ((flatP R).take k).drop (flen R m) = (flatP (R.drop m)).take (k - flen R m) := by
    rw [List.drop_take, hsplit, List.drop_left' (show (flatP (R.take m)).length = flen R m from rfl)]
  rw [hd]
  by_cases hm : m < R.length
  · have hx := hR R[m] (List.getElem_mem hm)
    have hlt := h3 hm
    rw [flen_succ R m hm] at hlt
    rw [List.drop_eq_getElem_cons hm, flatP_cons, List.take_append_of_le_length (by rw [fput_length]; omega)]
    exact ftake_prefix _ _ hx.1 hx.2 (by omega)
  · obtain rfl : m = R.length := by omega
    rw [List.drop_length, flatP_nil, List.take_nil]
    exact ftake_short _ (.inl (by simp))

theorem cut_fall (R : List (List UInt8)) (k m : Nat) (hR : ∀ x ∈ R, 0 < x.length ∧ x.length ≤ 4096) (h : Whole R k m) : fall ((flatP R).take k) = (R.take m, flen R m) := by
  have hs := cut_short R k m hR h
  have e : (flatP R).take k = flatP (R.take m) ++ ((flatP R).take k).drop (flen R m) := by
    have h1 : ((flatP R).take k).take (flen R m) = flatP (R.take m) := by
      rw [List.take_take, Nat.min_eq_left h.2.1]
      have hsplit : flatP R = flatP (R.take m) ++ flatP (R.drop m) := by rw [← flatP_append, List.take_append_drop]
      rw [hsplit, List.take_left' (show (flatP (R.take m)).length = flen R m from rfl)]
    conv => lhs; rw [← List.take_append_drop (flen R m) ((flatP R).take k), h1]
  rw [e, fall_flatP _ _ (fun x hx => hR x (List.mem_of_mem_take hx)) (by rw [hs]; decide)]
  rfl

theorem noughts_short : (ftake [0, 0, 1]).2.2 ≠ 0 := by decide +kernel
end Go.Proofs.Ytcinicmcfoioeaa
