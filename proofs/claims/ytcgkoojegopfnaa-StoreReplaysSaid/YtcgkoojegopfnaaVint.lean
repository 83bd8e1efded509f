/- Numbers in few bytes, as plain functions. -/
import Derived.Below
namespace Go.Proofs.Ytcgkoojegopfnaa

def byteN (n : Nat) : UInt8 := UInt8.ofNat n
theorem byteN_toNat (n : Nat) : (byteN n).toNat = n % 256 := by unfold byteN; rw [UInt8.toNat_ofNat']
theorem byteN_eq {n : Nat} {b : UInt8} (h : n % 256 = b.toNat) : byteN n = b := UInt8.toNat_inj.1 (by rw [byteN_toNat, h])

/-- A number as it is laid down (f is fuel: ten groups are enough). -/
def vputF : Nat → Nat → List UInt8
  | 0, n => [byteN n]
  | f + 1, n => if n < 128 then [byteN n] else byteN (n % 128 + 128) :: vputF f (n / 128)
def vput (n : Nat) : List UInt8 := vputF 9 n
def vsize (n : Nat) : Nat := (vput n).length

theorem vputF_more (f : Nat) : ∀ (g n : Nat), n < 128 ^ (f + 1) → f ≤ g → vputF f n = vputF g n := by
  induction f with
  | zero =>
    intro g n h _
    cases g with
    | zero => rfl
    | succ g => unfold vputF; rw [if_pos (by simpa using h)]
  | succ f ih =>
    intro g n h hg
    cases g with
    | zero => omega
    | succ g =>
      unfold vputF
      by_cases hn : n < 128
      · rw [if_pos hn, if_pos hn]
      · rw [if_neg hn, if_neg hn, ih g (n / 128) (by rw [Nat.pow_succ] at h; exact Nat.div_lt_of_lt_mul (by rw [Nat.mul_comm]; exact h)) (by omega)]

theorem vput_small (n : Nat) (h : n < 128) : vput n = [byteN n] := by unfold vput vputF; rw [if_pos h]
theorem vput_big (n : Nat) (h : ¬ n < 128) (h64 : n < 18446744073709551616) : vput n = byteN (n % 128 + 128) :: vput (n / 128) := by
  conv => lhs; unfold vput vputF
  rw [if_neg h]
  congr 1
  exact vputF_more 8 9 (n / 128) (by have : (128 : Nat) ^ (8 + 1) = 9223372036854775808 := by decide
                                     omega) (by omega)

theorem vput_ne (n : Nat) : 0 < (vput n).length := by
  unfold vput vputF
  split <;> simp
theorem vputF_le (f : Nat) : ∀ n, (vputF f n).length ≤ f + 1 := by
  induction f with
  | zero => intro n; exact Nat.le_refl _
  | succ f ih =>
    intro n
    unfold vputF
    split
    · simp
    · rw [List.length_cons]; have := ih (n / 128); omega
theorem vsize_le (n : Nat) : vsize n ≤ 10 := vputF_le 9 n
theorem vsize_small (n : Nat) (h : n < 128) : vsize n = 1 := by unfold vsize; rw [vput_small n h]; rfl
theorem vsize_big (n : Nat) (h : ¬ n < 128) (h64 : n < 18446744073709551616) : vsize n = vsize (n / 128) + 1 := by unfold vsize; rw [vput_big n h h64]; rfl
theorem vsize_pos (n : Nat) : 1 ≤ vsize n := vput_ne n

/-- A number's bytes, one by one. -/
theorem vput_getD (k : Nat) : ∀ n, n < 18446744073709551616 → k < vsize n → (vput n).getD k 0 = if k + 1 = vsize n then byteN (n / 128 ^ k) else byteN (n / 128 ^ k % 128 + 128) := by
  induction k with
  | zero =>
    intro n h64 hk
    by_cases hn : n < 128
    · rw [vsize_small n hn, if_pos rfl, vput_small n hn]
      simp
    · have h1 := vsize_big n hn h64
      have h2 := vsize_pos (n / 128)
      rw [if_neg (by omega), vput_big n hn h64]
      simp
  | succ k ih =>
    intro n h64 hk
    by_cases hn : n < 128
    · rw [vsize_small n hn] at hk; omega
    · have h1 := vsize_big n hn h64
      have hi := ih (n / 128) (by omega) (by omega)
      rw [vput_big n hn h64, List.getD_cons_succ, hi, h1, Nat.div_div_eq_div_mul, Nat.mul_comm 128, ← Nat.pow_succ]
      by_cases he : k + 1 = vsize (n / 128)
      · rw [if_pos he, if_pos (by omega)]
      · rw [if_neg he, if_neg (by omega)]

theorem vsize_last (k : Nat) : ∀ n, n < 18446744073709551616 → (n / 128 ^ k < 128 ↔ vsize n ≤ k + 1) := by
  induction k with
  | zero =>
    intro n h64
    rw [Nat.pow_zero, Nat.div_one]
    constructor
    · intro h; rw [vsize_small n h]; omega
    · intro h
      by_cases hn : n < 128
      · exact hn
      · have h1 := vsize_big n hn h64
        have h2 := vsize_pos (n / 128)
        omega
  | succ k ih =>
    intro n h64
    have hi := ih (n / 128) (by omega)
    rw [Nat.div_div_eq_div_mul, Nat.mul_comm 128, ← Nat.pow_succ] at hi
    rw [hi]
    by_cases hn : n < 128
    · rw [vsize_small n hn, vsize_small (n / 128) (by omega)]; omega
    · rw [vsize_big n hn h64]; omega

/-- The number that bytes come to, seven bits of each. -/
def vval : List UInt8 → Nat
  | [] => 0
  | b :: l => b.toNat % 128 + 128 * vval l

theorem vval_append (a b : List UInt8) : vval (a ++ b) = vval a + 128 ^ a.length * vval b := by
  induction a with
  | nil => simp [vval]
  | cons x a ih =>
    rw [List.cons_append, vval, ih, vval, List.length_cons, Nat.pow_succ, Nat.mul_add, ← Nat.mul_assoc, Nat.mul_comm 128 (128 ^ a.length)]
    omega
theorem vval_lt (a : List UInt8) : vval a < 128 ^ a.length := by
  induction a with
  | nil => simp [vval]
  | cons x a ih =>
    rw [vval, List.length_cons, Nat.pow_succ]
    omega
theorem vputF_val (f : Nat) : ∀ n, n < 128 ^ (f + 1) → vval (vputF f n) = n := by
  induction f with
  | zero => intro n h; simp only [vputF, vval, byteN_toNat]; simp at h; omega
  | succ f ih =>
    intro n h
    unfold vputF
    split
    · simp only [vval, byteN_toNat]; omega
    · have hi := ih (n / 128) (by rw [Nat.pow_succ] at h; exact Nat.div_lt_of_lt_mul (by rw [Nat.mul_comm]; exact h))
      simp only [vval, byteN_toNat, hi]
      omega
theorem pow10 : (128 : Nat) ^ 10 = 1180591620717411303424 := by decide
theorem vput_val (n : Nat) (h : n < 18446744073709551616) : vval (vput n) = n := vputF_val 9 n (by rw [pow10]; omega)

/-- What is taken: from the at-th byte on, n so far. The number, how many bytes, the error's number. -/
def vt (at_ n : Nat) : List UInt8 → Nat × Nat × Nat
  | [] => (0, 0, 2)
  | c :: r => if (0 < at_ ∧ c.toNat = 0) ∨ (at_ = 9 ∧ 1 < c.toNat) then (0, 0, 3) else if c.toNat < 128 then (n + c.toNat * 128 ^ at_, at_ + 1, 0) else vt (at_ + 1) (n + (c.toNat - 128) * 128 ^ at_) r
def vtake (b : List UInt8) : Nat × Nat × Nat := vt 0 0 b

theorem vt_err (l : List UInt8) : ∀ k n, (vt k n l).2.2 = 0 ∨ vt k n l = (0, 0, 2) ∨ vt k n l = (0, 0, 3) := by
  induction l with
  | nil => intro k n; exact .inr (.inl rfl)
  | cons c r ih =>
    intro k n
    unfold vt
    split
    · exact .inr (.inr rfl)
    · split
      · exact .inl rfl
      · exact ih _ _

/-- Bytes of a number: all but the last one at least 128, the last one below; not in vain; not too great. -/
theorem vt_ok (l : List UInt8) : ∀ (k n : Nat), k ≤ 9 → (vt k n l).2.2 = 0 → ∃ m, k + m + 1 = (vt k n l).2.1 ∧ k + m ≤ 9 ∧ m < l.length ∧ (∀ i, i < m → 128 ≤ (l.getD i 0).toNat) ∧ (l.getD m 0).toNat < 128 ∧ (0 < k + m → 0 < (l.getD m 0).toNat) ∧ (k + m = 9 → (l.getD m 0).toNat ≤ 1) ∧ (vt k n l).1 = n + vval (l.take (m + 1)) * 128 ^ k := by
  induction l with
  | nil => intro k n _ h; simp [vt] at h
  | cons c r ih =>
    intro k n hk h
    unfold vt at h ⊢
    by_cases hc : (0 < k ∧ c.toNat = 0) ∨ (k = 9 ∧ 1 < c.toNat)
    · rw [if_pos hc] at h; simp at h
    · rw [if_neg hc] at h ⊢
      by_cases hs : c.toNat < 128
      · rw [if_pos hs]
        refine ⟨0, by simp, by omega, by simp, by simp, by simpa using hs, by simp; omega, by simp; omega, ?_⟩
        simp only [List.take_succ_cons, List.take_zero, vval, Nat.mod_eq_of_lt hs]
        simp
      · rw [if_neg hs] at h ⊢
        have hcl := c.toNat_lt
        have hk9 : k ≠ 9 := by omega
        obtain ⟨m, h1, h2, h3, h4, h5, h6, h7, h8⟩ := ih (k + 1) (n + (c.toNat - 128) * 128 ^ k) (by omega) h
        refine ⟨m + 1, by omega, by omega, by rw [List.length_cons]; omega, ?_, by simpa using h5, ?_, ?_, ?_⟩
        · intro i hi
          cases i with
          | zero => simp; omega
          | succ i => simpa using h4 i (by omega)
        · intro _; simpa using h6 (by omega)
        · intro h9; simpa using h7 (by omega)
        · rw [h8]
          simp only [List.take_succ_cons, vval]
          have : c.toNat % 128 = c.toNat - 128 := by omega
          rw [this, Nat.pow_succ, Nat.add_mul]
          have e : 128 * vval (r.take (m + 1)) * 128 ^ k = vval (r.take (m + 1)) * (128 ^ k * 128) := by
            rw [Nat.mul_comm (128 ^ k) 128, ← Nat.mul_assoc, Nat.mul_comm 128]
          omega

/-- Such bytes are the number's own. -/
theorem vput_of (p : List UInt8) : ∀ (q : UInt8), (∀ b ∈ p, 128 ≤ b.toNat) → q.toNat < 128 → (p ≠ [] → 0 < q.toNat) → ∀ f, p.length ≤ f → vputF f (vval (p ++ [q])) = p ++ [q] := by
  induction p with
  | nil =>
    intro q _ hq _ f _
    simp only [List.nil_append, vval, Nat.mod_eq_of_lt hq]
    have e : byteN (q.toNat + 128 * 0) = q := byteN_eq (by have := q.toNat_lt; omega)
    cases f with
    | zero => unfold vputF; rw [e]
    | succ f => unfold vputF; rw [if_pos (by omega), e]
  | cons b p ih =>
    intro q hb hq h0 f hf
    cases f with
    | zero => simp at hf
    | succ f =>
      have hbb := hb b List.mem_cons_self
      have hbl := b.toNat_lt
      have hq0 := h0 (by simp)
      have hi := ih q (fun x hx => hb x (List.mem_cons_of_mem _ hx)) hq (fun _ => hq0) f (by simp at hf; omega)
      have hpos : 0 < vval (p ++ [q]) := by
        rw [vval_append]
        have h1 : vval [q] = q.toNat := by simp only [vval]; omega
        rw [h1]
        have h2 : 0 < 128 ^ p.length * q.toNat := Nat.mul_pos (Nat.pos_of_ne_zero (by simp)) hq0
        omega
      rw [List.cons_append, vval]
      unfold vputF
      rw [if_neg (by omega)]
      have e1 : (b.toNat % 128 + 128 * vval (p ++ [q])) / 128 = vval (p ++ [q]) := by omega
      have e2 : byteN ((b.toNat % 128 + 128 * vval (p ++ [q])) % 128 + 128) = b := byteN_eq (by omega)
      rw [e1, hi, e2]

end Go.Proofs.Ytcgkoojegopfnaa
