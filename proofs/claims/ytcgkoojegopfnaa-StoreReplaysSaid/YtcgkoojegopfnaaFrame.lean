/- Frames, as plain functions. -/
import Derived.Test.YtcgkoojegopfnaaAdler
namespace Go.Proofs.Ytcgkoojegopfnaa

def byteOf (n : Nat) : UInt8 := UInt8.ofNat n
def be2 (n : Nat) : List UInt8 := [byteOf (n / 256), byteOf n]
def be4 (n : Nat) : List UInt8 := [byteOf (n / 16777216), byteOf (n / 65536), byteOf (n / 256), byteOf n]
def fbody (x : List UInt8) : List UInt8 := be2 x.length ++ x
def fput (x : List UInt8) : List UInt8 := fbody x ++ be4 (adler 1 (fbody x)).toNat

theorem byteOf_toNat (n : Nat) : (byteOf n).toNat = n % 256 := by unfold byteOf; rw [UInt8.toNat_ofNat']
theorem be2_length (n : Nat) : (be2 n).length = 2 := rfl
theorem be4_length (n : Nat) : (be4 n).length = 4 := rfl
theorem fbody_length (x : List UInt8) : (fbody x).length = x.length + 2 := by unfold fbody; rw [List.length_append, be2_length]; omega
theorem fput_length (x : List UInt8) : (fput x).length = x.length + 6 := by unfold fput; rw [List.length_append, fbody_length, be4_length]

def hd2 (b : List UInt8) : Nat := 256 * (b.getD 0 0).toNat + (b.getD 1 0).toNat
def beVal (l : List UInt8) : Nat := l.foldl (fun s b => s * 256 + b.toNat) 0
theorem beVal_snoc (l : List UInt8) (b : UInt8) : beVal (l ++ [b]) = beVal l * 256 + b.toNat := by unfold beVal; rw [List.foldl_append]; rfl
theorem beVal_lt (l : List UInt8) : ∀ s k : Nat, s < 256 ^ k → l.foldl (fun s b => s * 256 + b.toNat) s < 256 ^ (k + l.length) := by
  induction l with
  | nil => intro s k h; exact h
  | cons b l ih =>
    intro s k h
    have hb := b.toNat_lt
    have h2 := ih (s * 256 + b.toNat) (k + 1) (by rw [Nat.pow_succ]; omega)
    rw [List.length_cons, show k + (l.length + 1) = k + 1 + l.length by omega]
    exact h2
theorem beVal_bd (l : List UInt8) : beVal l < 256 ^ l.length := by
  have h := beVal_lt l 0 0 (by decide)
  rwa [Nat.zero_add] at h

/-- What is taken: the record, how many bytes its frame has, and the error's number. -/
def ftake (b : List UInt8) : List UInt8 × Nat × Nat :=
  if b.length < 2 then ([], 0, 2)
  else if hd2 b = 0 ∨ 4096 < hd2 b then ([], 0, 3)
  else if b.length < hd2 b + 6 then ([], 0, 2)
  else if adler 1 (b.take (hd2 b + 2)) = (beVal ((b.drop (hd2 b + 2)).take 4) : Nat) then ((b.drop 2).take (hd2 b), hd2 b + 6, 0)
  else ([], 0, 3)

theorem ftake_ok (b : List UInt8) (h : (ftake b).2.2 = 0) : 2 ≤ b.length ∧ 0 < hd2 b ∧ hd2 b ≤ 4096 ∧ hd2 b + 6 ≤ b.length ∧ adler 1 (b.take (hd2 b + 2)) = (beVal ((b.drop (hd2 b + 2)).take 4) : Nat) ∧ ftake b = ((b.drop 2).take (hd2 b), hd2 b + 6, 0) := by
  unfold ftake at h ⊢
  by_cases h1 : b.length < 2
  · rw [if_pos h1] at h; simp at h
  · rw [if_neg h1] at h ⊢
    by_cases h2 : hd2 b = 0 ∨ 4096 < hd2 b
    · rw [if_pos h2] at h; simp at h
    · rw [if_neg h2] at h ⊢
      by_cases h3 : b.length < hd2 b + 6
      · rw [if_pos h3] at h; simp at h
      · rw [if_neg h3] at h ⊢
        by_cases h4 : adler 1 (b.take (hd2 b + 2)) = (beVal ((b.drop (hd2 b + 2)).take 4) : Nat)
        · rw [if_pos h4]
          exact ⟨by omega, by omega, by omega, by omega, h4, rfl⟩
        · rw [if_neg h4] at h; simp at h

theorem ftake_size (b : List UInt8) (h : (ftake b).2.2 = 0) : 7 ≤ (ftake b).2.1 ∧ (ftake b).2.1 ≤ b.length ∧ (ftake b).1.length + 6 = (ftake b).2.1 ∧ (ftake b).1.length ≤ 4096 := by
  obtain ⟨h1, h2, h3, h4, _, h6⟩ := ftake_ok b h
  rw [h6]
  simp only [List.length_take, List.length_drop]
  omega

theorem ftake_err (b : List UInt8) : (ftake b).2.2 = 0 ∨ (ftake b = ([], 0, 2) ∨ ftake b = ([], 0, 3)) := by
  unfold ftake
  repeat' split
  all_goals simp

/-- All frames of a row that are whole, one behind the other: the records, and how many bytes they take. -/
def fallF : Nat → List UInt8 → List (List UInt8) × Nat
  | 0, _ => ([], 0)
  | k + 1, b => if (ftake b).2.2 = 0 then ((ftake b).1 :: (fallF k (b.drop (ftake b).2.1)).1, (ftake b).2.1 + (fallF k (b.drop (ftake b).2.1)).2) else ([], 0)
def fall (b : List UInt8) : List (List UInt8) × Nat := fallF (b.length + 1) b

theorem fallF_more (k : Nat) : ∀ (m : Nat) (b : List UInt8), b.length < k → b.length < m → fallF k b = fallF m b := by
  induction k with
  | zero => intro m b h; omega
  | succ k ih =>
    intro m b hk hm
    cases m with
    | zero => omega
    | succ m =>
      unfold fallF
      by_cases h : (ftake b).2.2 = 0
      · have hs := ftake_size b h
        rw [if_pos h, if_pos h, ih m (b.drop (ftake b).2.1) (by rw [List.length_drop]; omega) (by rw [List.length_drop]; omega)]
      · rw [if_neg h, if_neg h]

theorem fall_stop (b : List UInt8) (h : (ftake b).2.2 ≠ 0) : fall b = ([], 0) := by
  unfold fall fallF
  rw [if_neg h]
theorem fall_next (b : List UInt8) (h : (ftake b).2.2 = 0) : fall b = ((ftake b).1 :: (fall (b.drop (ftake b).2.1)).1, (ftake b).2.1 + (fall (b.drop (ftake b).2.1)).2) := by
  have hs := ftake_size b h
  conv => lhs; unfold fall fallF
  rw [if_pos h]
  unfold fall
  rw [fallF_more b.length ((b.drop (ftake b).2.1).length + 1) _ (by rw [List.length_drop]; omega) (by omega)]

theorem fall_bd (k : Nat) : ∀ b : List UInt8, b.length ≤ k → (fall b).2 ≤ b.length ∧ (fall b).1.length ≤ (fall b).2 := by
  induction k with
  | zero =>
    intro b hb
    have h : (ftake b).2.2 ≠ 0 := fun h => by have := ftake_size b h; omega
    rw [fall_stop b h]
    simp
  | succ k ih =>
    intro b hb
    by_cases h : (ftake b).2.2 = 0
    · have hs := ftake_size b h
      have hi := ih (b.drop (ftake b).2.1) (by rw [List.length_drop]; omega)
      rw [fall_next b h]
      rw [List.length_drop] at hi
      simp only [List.length_cons]
      omega
    · rw [fall_stop b h]
      simp

theorem byteOf_eq {n : Nat} {b : UInt8} (h : n % 256 = b.toNat) : byteOf n = b := UInt8.toNat_inj.1 (by rw [byteOf_toNat, h])

theorem be4_beVal (z : List UInt8) (h : z.length = 4) : be4 (beVal z) = z := by
  match z, h with
  | [a, b, c, d], _ =>
    have ha := a.toNat_lt
    have hb := b.toNat_lt
    have hc := c.toNat_lt
    have hd := d.toNat_lt
    simp only [be4, beVal, List.foldl_cons, List.foldl_nil]
    rw [byteOf_eq (b := a) (by omega), byteOf_eq (b := b) (by omega), byteOf_eq (b := c) (by omega), byteOf_eq (b := d) (by omega)]

theorem beVal_be4 (q : Nat) (h : q < 4294967296) : beVal (be4 q) = q := by
  simp only [be4, beVal, List.foldl_cons, List.foldl_nil, byteOf_toNat]
  omega

theorem be2_hd2 (b : List UInt8) (h : 2 ≤ b.length) : be2 (hd2 b) = b.take 2 := by
  match b, h with
  | x :: y :: r, _ =>
    have hx := x.toNat_lt
    have hy := y.toNat_lt
    simp only [be2, hd2, List.getD_cons_zero, List.getD_cons_succ, List.take_succ_cons, List.take_zero]
    rw [byteOf_eq (b := x) (by omega), byteOf_eq (b := y) (by omega)]

theorem fbody_of (b : List UInt8) (h : hd2 b + 2 ≤ b.length) : fbody ((b.drop 2).take (hd2 b)) = b.take (hd2 b + 2) := by
  have hl : ((b.drop 2).take (hd2 b)).length = hd2 b := by simp; omega
  unfold fbody
  rw [hl, be2_hd2 b (by omega), Nat.add_comm, ← List.take_add]

/-- A frame put anew is the one that was taken just where the sum is right. -/
theorem fput_iff (b : List UInt8) (h : hd2 b + 6 ≤ b.length) : fput ((b.drop 2).take (hd2 b)) = b.take (hd2 b + 6) ↔ adler 1 (b.take (hd2 b + 2)) = (beVal ((b.drop (hd2 b + 2)).take 4) : Nat) := by
  have hb := adler_bd 1 (b.take (hd2 b + 2))
  unfold fput
  rw [fbody_of b (by omega), show hd2 b + 6 = (hd2 b + 2) + 4 by omega, List.take_add (i := hd2 b + 2), List.append_cancel_left_eq]
  have hz : ((b.drop (hd2 b + 2)).take 4).length = 4 := by simp; omega
  generalize (b.drop (hd2 b + 2)).take 4 = z at *
  constructor
  · intro e
    have e2 := beVal_be4 (adler 1 (b.take (hd2 b + 2))).toNat (by omega)
    rw [e] at e2
    omega
  · intro e
    rw [e, Int.toNat_natCast, be4_beVal z hz]

/-- Put, of any record: the frame, and the error's number. -/
def fp (x : List UInt8) : List UInt8 × Nat := if x.length = 0 ∨ 4096 < x.length then ([], 4) else (fput x, 0)

/-- Frames one behind the other. -/
def flatP (L : List (List UInt8)) : List UInt8 := (L.map fput).flatten
theorem flatP_nil : flatP [] = [] := rfl
theorem flatP_cons (x : List UInt8) (L : List (List UInt8)) : flatP (x :: L) = fput x ++ flatP L := rfl
theorem flatP_append (L M : List (List UInt8)) : flatP (L ++ M) = flatP L ++ flatP M := by unfold flatP; rw [List.map_append, List.flatten_append]
theorem flatP_snoc (L : List (List UInt8)) (x : List UInt8) : flatP (L ++ [x]) = flatP L ++ fput x := by rw [flatP_append, flatP_cons, flatP_nil, List.append_nil]

theorem ftake_put (b : List UInt8) (h : (ftake b).2.2 = 0) : b.take (ftake b).2.1 = fput (ftake b).1 ∧ 0 < (ftake b).1.length ∧ (ftake b).1.length ≤ 4096 := by
  obtain ⟨h1, h2, h3, h4, h5, h6⟩ := ftake_ok b h
  have h7 := (fput_iff b h4).2 h5
  have hl : ((b.drop 2).take (hd2 b)).length = hd2 b := by simp; omega
  rw [h6]
  exact ⟨h7.symm, by simp only; omega, by simp only; omega⟩

theorem fall_spec (k : Nat) : ∀ b : List UInt8, b.length ≤ k → b.take (fall b).2 = flatP (fall b).1 ∧ (∀ x ∈ (fall b).1, 0 < x.length ∧ x.length ≤ 4096) ∧ ((fall b).1 = [] ↔ (ftake b).2.2 ≠ 0) := by
  induction k with
  | zero =>
    intro b hb
    have h : (ftake b).2.2 ≠ 0 := fun h => by have := ftake_size b h; omega
    rw [fall_stop b h]
    exact ⟨by rw [flatP_nil, List.take_zero], by simp, by simp [h]⟩
  | succ k ih =>
    intro b hb
    by_cases h : (ftake b).2.2 = 0
    · have hs := ftake_size b h
      have hp := ftake_put b h
      obtain ⟨i1, i2, _⟩ := ih (b.drop (ftake b).2.1) (by rw [List.length_drop]; omega)
      rw [fall_next b h]
      refine ⟨?_, ?_, by simp [h]⟩
      · simp only
        rw [List.take_add, i1, hp.1, flatP_cons]
      · intro x hx
        rcases List.mem_cons.1 hx with rfl | hx
        · exact hp.2
        · exact i2 x hx
    · rw [fall_stop b h]
      exact ⟨by rw [flatP_nil, List.take_zero], by simp, by simp [h]⟩

theorem fp_ok (x : List UInt8) (h : 0 < x.length ∧ x.length ≤ 4096) : fp x = (fput x, 0) := by unfold fp; rw [if_neg (by omega)]

/-- Of records those that may be framed, each cut at 300 bytes. -/
def recs (L : List (List UInt8)) : List (List UInt8) := (L.map (·.take 300)).filter (fun x => decide (0 < x.length))
theorem recs_snoc_yes (L : List (List UInt8)) (x : List UInt8) (h : 0 < (x.take 300).length) : recs (L ++ [x]) = recs L ++ [x.take 300] := by
  unfold recs
  rw [List.map_append, List.filter_append]
  simp only [List.map_cons, List.map_nil, List.filter_cons, List.filter_nil]
  rw [if_pos (by simpa using h)]
theorem recs_snoc_no (L : List (List UInt8)) (x : List UInt8) (h : ¬ 0 < (x.take 300).length) : recs (L ++ [x]) = recs L := by
  unfold recs
  rw [List.map_append, List.filter_append]
  simp only [List.map_cons, List.map_nil, List.filter_cons, List.filter_nil]
  rw [if_neg (by simpa using h), List.append_nil]
theorem recs_le (L : List (List UInt8)) : (recs L).length ≤ L.length := by
  unfold recs
  have := List.length_filter_le (fun x : List UInt8 => decide (0 < x.length)) (L.map (·.take 300))
  rwa [List.length_map] at this
theorem recs_mem (L : List (List UInt8)) (x : List UInt8) (h : x ∈ recs L) : 0 < x.length ∧ x.length ≤ 300 := by
  unfold recs at h
  rw [List.mem_filter, List.mem_map] at h
  obtain ⟨⟨y, _, rfl⟩, h2⟩ := h
  refine ⟨by simpa using h2, ?_⟩
  rw [List.length_take]
  omega
theorem flatP_le (R : List (List UInt8)) (h : ∀ x ∈ R, x.length ≤ 300) : (flatP R).length ≤ 306 * R.length := by
  induction R with
  | nil => simp [flatP_nil]
  | cons x R ih =>
    have h1 := ih (fun y hy => h y (List.mem_cons_of_mem _ hy))
    have h2 := h x List.mem_cons_self
    rw [flatP_cons, List.length_append, fput_length, List.length_cons]
    omega

/-- Where each frame of a row ends. -/
def fends (R : List (List UInt8)) : List Nat := (List.range R.length).map (fun i => (flatP (R.take (i + 1))).length)
theorem fends_nil : fends [] = [] := rfl
theorem fends_length (R : List (List UInt8)) : (fends R).length = R.length := by unfold fends; simp
theorem fends_snoc (R : List (List UInt8)) (x : List UInt8) : fends (R ++ [x]) = fends R ++ [(flatP (R ++ [x])).length] := by
  unfold fends
  rw [List.length_append, List.length_singleton, List.range_succ, List.map_append]
  congr 1
  · refine List.map_congr_left (fun i hi => ?_)
    have hi' := List.mem_range.1 hi
    rw [List.take_append_of_le_length (by omega)]
  · simp only [List.map_cons, List.map_nil]
    rw [List.take_of_length_le (by simp)]

end Go.Proofs.Ytcgkoojegopfnaa
