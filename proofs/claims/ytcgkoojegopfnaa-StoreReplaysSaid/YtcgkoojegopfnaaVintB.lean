/- Numbers in few bytes, as plain functions: what is taken of what was put, and the other way round. -/
import Derived.Test.YtcgkoojegopfnaaVint
namespace Go.Proofs.Ytcgkoojegopfnaa

theorem pow9 : (128 : Nat) ^ 9 = 9223372036854775808 := by decide

theorem vtake_ok (b : List UInt8) (h : (vtake b).2.2 = 0) :
    1 ≤ (vtake b).2.1 ∧ (vtake b).2.1 ≤ b.length ∧ (vtake b).2.1 ≤ 10 ∧ vput (vtake b).1 = b.take (vtake b).2.1 ∧ (vtake b).1 < 18446744073709551616 ∧ (∀ i, i + 1 < (vtake b).2.1 → 128 ≤ (b.getD i 0).toNat) ∧ (b.getD ((vtake b).2.1 - 1) 0).toNat < 128 ∧ (vtake b).1 = vval (b.take (vtake b).2.1) := by
  obtain ⟨m, h1, h2, h3, h4, h5, h6, h7, h8⟩ := vt_ok b 0 0 (by omega) h
  have e1 : (vtake b).2.1 = m + 1 := by unfold vtake; omega
  have e2 : (vtake b).1 = vval (b.take (m + 1)) := by unfold vtake; rw [h8]; simp
  have hsplit : b.take (m + 1) = b.take m ++ [b.getD m 0] := by
    rw [List.take_succ_eq_append_getElem h3, List.getD_eq_getElem?_getD, List.getElem?_eq_getElem h3]
    rfl
  have hall : ∀ x ∈ b.take m, 128 ≤ x.toNat := by
    intro x hx
    obtain ⟨i, hi, rfl⟩ := List.getElem_of_mem hx
    have hi' : i < m := by rw [List.length_take] at hi; omega
    have := h4 i hi'
    rw [List.getD_eq_getElem?_getD, List.getElem?_eq_getElem (by omega)] at this
    rw [List.getElem_take]
    exact this
  have hne : b.take m ≠ [] → 0 < (b.getD m 0).toNat := by
    intro hn
    apply h6
    rcases Nat.eq_zero_or_pos m with h0 | h0
    · rw [h0] at hn; simp at hn
    · omega
  have hp := vput_of (b.take m) (b.getD m 0) hall h5 hne 9 (by rw [List.length_take]; omega)
  rw [e1, e2]
  refine ⟨by omega, by omega, by omega, ?_, ?_, fun i hi => h4 i (by omega), by rw [Nat.add_sub_cancel]; exact h5, rfl⟩
  · rw [hsplit]
    exact hp
  · rw [hsplit, vval_append]
    have hv := vval_lt (b.take m)
    have hml : (b.take m).length = m := by rw [List.length_take]; omega
    rw [hml] at hv ⊢
    have hq : vval [b.getD m 0] = (b.getD m 0).toNat := by simp only [vval]; omega
    rw [hq]
    by_cases h9 : m = 9
    · subst h9
      have := h7 (by omega)
      rw [pow9] at hv ⊢
      omega
    · have hm8 : 128 ^ m ≤ 128 ^ 8 := Nat.pow_le_pow_right (by omega) (by omega)
      have e8 : (128 : Nat) ^ 8 = 72057594037927936 := by decide
      rw [e8] at hm8
      have h128 : 128 ^ m * (b.getD m 0).toNat ≤ 72057594037927936 * 127 := Nat.mul_le_mul hm8 (by omega)
      omega

/-- A number that was laid down is taken as it was, whatever stands behind it. -/
theorem vt_put (f : Nat) : ∀ (k acc n : Nat) (r : List UInt8), n < 128 ^ (f + 1) → k + f ≤ 9 → (0 < k → 0 < n) → n * 128 ^ k < 18446744073709551616 → vt k acc (vputF f n ++ r) = (acc + n * 128 ^ k, k + (vputF f n).length, 0) := by
  have key : ∀ (k acc n : Nat) (r : List UInt8), n < 128 → (0 < k → 0 < n) → n * 128 ^ k < 18446744073709551616 → vt k acc ([byteN n] ++ r) = (acc + n * 128 ^ k, k + 1, 0) := by
    intro k acc n r hn h0 h64
    have hb : (byteN n).toNat = n := by rw [byteN_toNat]; omega
    simp only [List.cons_append, List.nil_append, vt, hb]
    rw [if_neg, if_pos hn]
    intro h
    rcases h with ⟨h1, h2⟩ | ⟨h1, h2⟩
    · have := h0 h1; omega
    · subst h1; rw [pow9] at h64; omega
  induction f with
  | zero => intro k acc n r hn _ h0 h64; exact key k acc n r (by simpa using hn) h0 h64
  | succ f ih =>
    intro k acc n r hn hkf h0 h64
    unfold vputF
    by_cases hs : n < 128
    · rw [if_pos hs]
      exact key k acc n r hs h0 h64
    · rw [if_neg hs]
      have hb : (byteN (n % 128 + 128)).toNat = n % 128 + 128 := by rw [byteN_toNat]; omega
      simp only [List.cons_append, vt, hb]
      rw [if_neg (by omega), if_neg (by omega)]
      have hd : n / 128 * 128 ^ (k + 1) + n % 128 * 128 ^ k = n * 128 ^ k := by
        rw [Nat.pow_succ, Nat.mul_comm (128 ^ k) 128, ← Nat.mul_assoc, ← Nat.add_mul]
        congr 1
        omega
      rw [ih (k + 1) _ (n / 128) r (by rw [Nat.pow_succ] at hn; exact Nat.div_lt_of_lt_mul (by rw [Nat.mul_comm]; exact hn)) (by omega) (fun _ => by omega) (by omega)]
      rw [Nat.add_sub_cancel, List.length_cons]
      simp only [Prod.mk.injEq, and_true]
      omega

theorem vtake_put (n : Nat) (r : List UInt8) (h : n < 18446744073709551616) : vtake (vput n ++ r) = (n, vsize n, 0) := by
  unfold vtake vput
  rw [vt_put 9 0 0 n r (by rw [pow10]; omega) (by omega) (by omega) (by omega)]
  simp [vsize, vput]

/-- Cut, it goes on. -/
theorem vt_cut (f : Nat) : ∀ (k acc n c : Nat), k + f ≤ 9 → c < (vputF f n).length → vt k acc ((vputF f n).take c) = (0, 0, 2) := by
  induction f with
  | zero =>
    intro k acc n c _ hc
    obtain rfl : c = 0 := by simp [vputF] at hc; exact hc
    rfl
  | succ f ih =>
    intro k acc n c hkf hc
    cases c with
    | zero => rfl
    | succ c =>
      unfold vputF at hc ⊢
      by_cases hs : n < 128
      · rw [if_pos hs] at hc; simp at hc
      · rw [if_neg hs] at hc ⊢
        have hb : (byteN (n % 128 + 128)).toNat = n % 128 + 128 := by rw [byteN_toNat]; omega
        simp only [List.take_succ_cons, vt, hb]
        rw [if_neg (by omega), if_neg (by omega)]
        exact ih (k + 1) _ (n / 128) c (by omega) (by simp at hc; omega)
theorem vtake_cut (n c : Nat) (h : c < vsize n) : vtake ((vput n).take c) = (0, 0, 2) := vt_cut 9 0 0 n c (by omega) h

/-- Which bytes go on. -/
theorem vt_short (l : List UInt8) : ∀ k n, k ≤ 9 → (vt k n l = (0, 0, 2) ↔ (∀ c ∈ l, 128 ≤ c.toNat) ∧ k + l.length < 10) := by
  induction l with
  | nil => intro k n hk; simp [vt]; omega
  | cons c r ih =>
    intro k n hk
    have hcl := c.toNat_lt
    unfold vt
    by_cases hc : (0 < k ∧ c.toNat = 0) ∨ (k = 9 ∧ 1 < c.toNat)
    · rw [if_pos hc]
      simp only [Prod.mk.injEq, List.length_cons]
      constructor
      · intro h; omega
      · rintro ⟨h1, h2⟩
        have := h1 c List.mem_cons_self
        omega
    · rw [if_neg hc]
      by_cases hs : c.toNat < 128
      · rw [if_pos hs]
        constructor
        · intro h; simp at h
        · rintro ⟨h1, h2⟩
          have := h1 c List.mem_cons_self
          omega
      · rw [if_neg hs, ih (k + 1) _ (by omega)]
        constructor
        · rintro ⟨h1, h2⟩
          refine ⟨fun x hx => ?_, by rw [List.length_cons]; omega⟩
          rcases List.mem_cons.1 hx with rfl | hx
          · omega
          · exact h1 x hx
        · rintro ⟨h1, h2⟩
          exact ⟨fun x hx => h1 x (List.mem_cons_of_mem _ hx), by rw [List.length_cons] at h2; omega⟩
theorem vtake_short (b : List UInt8) : vtake b = (0, 0, 2) ↔ (∀ c ∈ b, 128 ≤ c.toNat) ∧ b.length < 10 := by
  have h := vt_short b 0 0 (by omega)
  rw [Nat.zero_add] at h
  exact h
theorem vtake_err (b : List UInt8) : (vtake b).2.2 = 0 ∨ vtake b = (0, 0, 2) ∨ vtake b = (0, 0, 3) := vt_err b 0 0

/-- What the reference says where the first byte below 128 is the m-th. -/
theorem vtake_ref (b : List UInt8) (m : Nat) (hm : m < b.length) (hall : ∀ i, i < m → 128 ≤ (b.getD i 0).toNat) (hs : (b.getD m 0).toNat < 128) :
    vtake b = if vput (vval (b.take (m + 1)) % 18446744073709551616) = b.take (m + 1) then (vval (b.take (m + 1)) % 18446744073709551616, m + 1, 0) else (0, 0, 3) := by
  have hlt : vval (b.take (m + 1)) % 18446744073709551616 < 18446744073709551616 := Nat.mod_lt _ (by omega)
  by_cases he : vput (vval (b.take (m + 1)) % 18446744073709551616) = b.take (m + 1)
  · rw [if_pos he]
    have h := vtake_put (vval (b.take (m + 1)) % 18446744073709551616) (b.drop (m + 1)) hlt
    rw [he, List.take_append_drop] at h
    have hsz : vsize (vval (b.take (m + 1)) % 18446744073709551616) = m + 1 := by
      unfold vsize
      rw [he, List.length_take]
      omega
    rw [h, hsz]
  · rw [if_neg he]
    rcases vtake_err b with h | h | h
    · exfalso
      obtain ⟨h1, h2, h3, h4, h5, h6, h7, h8⟩ := vtake_ok b h
      have e : (vtake b).2.1 = m + 1 := by
        rcases Nat.lt_trichotomy ((vtake b).2.1) (m + 1) with hl | hl | hl
        · have := hall ((vtake b).2.1 - 1) (by omega); omega
        · exact hl
        · have := h6 m (by omega); omega
      rw [e] at h4 h8
      rw [h8] at h4 h5
      rw [Nat.mod_eq_of_lt h5] at he
      exact he h4
    · exfalso
      have := ((vtake_short b).1 h).1 (b.getD m 0) (by rw [List.getD_eq_getElem?_getD, List.getElem?_eq_getElem hm]; exact List.getElem_mem hm)
      omega
    · exact h

theorem vput_inj {a b : Nat} (ha : a < 18446744073709551616) (hb : b < 18446744073709551616) (h : vput a = vput b) : a = b := by
  rw [← vput_val a ha, ← vput_val b hb, h]

theorem vsize_mono (a b : Nat) (h : a ≤ b) (hb : b < 18446744073709551616) : vsize a ≤ vsize b := by
  have hp := vsize_pos b
  have h1 := (vsize_last (vsize b - 1) b hb).2 (by omega)
  have h2 := (vsize_last (vsize b - 1) a (by omega)).1 (Nat.lt_of_le_of_lt (Nat.div_le_div_right h) h1)
  omega
theorem vsize_one (n : Nat) (h : n < 18446744073709551616) : vsize n = 1 ↔ n < 128 := by
  have h1 := vsize_last 0 n h
  have hp := vsize_pos n
  rw [Nat.pow_zero, Nat.div_one] at h1
  rw [h1]
  omega

/-- A number's groups, each with the mark that more follow. -/
def hib (n k : Nat) : List UInt8 := (List.range k).map (fun i => byteN (n / 128 ^ i % 128 + 128))
theorem hib_length (n k : Nat) : (hib n k).length = k := by simp [hib]
theorem hib_succ (n k : Nat) : hib n (k + 1) = hib n k ++ [byteN (n / 128 ^ k % 128 + 128)] := by unfold hib; rw [List.range_succ, List.map_append]; rfl
theorem hib_getD (n k i : Nat) (h : i < k) : (hib n k)[i]? = some (byteN (n / 128 ^ i % 128 + 128)) := by simp [hib, h]

theorem hib_set (n k r : Nat) : (hib n k ++ List.replicate (r + 1) 0).set k (byteN (n / 128 ^ k % 128 + 128)) = hib n (k + 1) ++ List.replicate r 0 := by
  rw [List.set_append_right _ _ (by rw [hib_length]; omega), hib_length, Nat.sub_self, List.replicate_succ, List.set_cons_zero, hib_succ, List.append_assoc]
  rfl

/-- Where the last one's mark is struck, the bytes are the number's. -/
theorem hib_vput (n s : Nat) (h : n < 18446744073709551616) (hs : vsize n = s + 1) : (hib n (s + 1)).set s (byteN (n / 128 ^ s % 128)) = vput n := by
  refine List.ext_getElem? fun i => ?_
  have hl : (vput n).length = s + 1 := hs
  have hlast := (vsize_last s n h).2 (by omega)
  by_cases hi : i < s + 1
  · have hg := vput_getD i n h (by omega)
    rw [List.getD_eq_getElem?_getD, List.getElem?_eq_getElem (by omega), Option.getD_some] at hg
    rw [List.getElem?_eq_getElem (show i < (vput n).length by omega), hg, hs]
    by_cases he : i = s
    · subst he
      rw [List.getElem?_set_self (by rw [hib_length]; omega), if_pos rfl, Nat.mod_eq_of_lt hlast]
    · rw [List.getElem?_set_ne (by omega), hib_getD _ _ _ hi, if_neg (by omega)]
  · rw [List.getElem?_eq_none (by rw [List.length_set, hib_length]; omega), List.getElem?_eq_none (by omega)]

end Go.Proofs.Ytcgkoojegopfnaa
