/- The sum of bytes (a check by two numbers below 65521), as a plain function, and its laws. -/
import Derived.Below
namespace Go.Proofs.Ytcgkoojegopfnaa

def astep (p : Int × Int) (b : UInt8) : Int × Int := ((p.1 + b.toNat) % 65521, (p.2 + (p.1 + b.toNat) % 65521) % 65521)
def aval (p : Int × Int) : Int := 65536 * p.2 + p.1
def astart (s : Int) : Int × Int := (s % 65536 % 65521, s / 65536 % 65521)
def adler (s : Int) (l : List UInt8) : Int := aval (l.foldl astep (astart s))

theorem astep_bd (p : Int × Int) (b : UInt8) : 0 ≤ (astep p b).1 ∧ (astep p b).1 < 65521 ∧ 0 ≤ (astep p b).2 ∧ (astep p b).2 < 65521 := by unfold astep; simp only; omega
theorem astart_bd (s : Int) : 0 ≤ (astart s).1 ∧ (astart s).1 < 65521 ∧ 0 ≤ (astart s).2 ∧ (astart s).2 < 65521 := by unfold astart; simp only; omega
theorem afold_bd (l : List UInt8) : ∀ p : Int × Int, (0 ≤ p.1 ∧ p.1 < 65521 ∧ 0 ≤ p.2 ∧ p.2 < 65521) → 0 ≤ (l.foldl astep p).1 ∧ (l.foldl astep p).1 < 65521 ∧ 0 ≤ (l.foldl astep p).2 ∧ (l.foldl astep p).2 < 65521 := by
  induction l with
  | nil => intro p h; exact h
  | cons b l ih => intro p _; exact ih _ (astep_bd p b)
def ak (s : Int) (l : List UInt8) (k : Nat) : Int × Int := (l.take k).foldl astep (astart s)
theorem ak_zero (s : Int) (l : List UInt8) : ak s l 0 = astart s := rfl
theorem ak_all (s : Int) (l : List UInt8) : aval (ak s l l.length) = adler s l := by unfold ak adler; rw [List.take_length]
theorem ak_bd (s : Int) (l : List UInt8) (k : Nat) : 0 ≤ (ak s l k).1 ∧ (ak s l k).1 < 65521 ∧ 0 ≤ (ak s l k).2 ∧ (ak s l k).2 < 65521 := afold_bd _ _ (astart_bd s)
theorem ak_succ (s : Int) (l : List UInt8) (k : Nat) (h : k < l.length) : ak s l (k + 1) = astep (ak s l k) (l.getD k 0) := by
  unfold ak
  rw [List.take_succ_eq_append_getElem h, List.foldl_append]
  simp [List.getD, h]

theorem adler_bd (s : Int) (l : List UInt8) : 0 ≤ adler s l ∧ adler s l < 4294967296 := by
  have h := afold_bd l _ (astart_bd s)
  unfold adler aval
  omega

theorem astart_aval (p : Int × Int) (h : 0 ≤ p.1 ∧ p.1 < 65521 ∧ 0 ≤ p.2 ∧ p.2 < 65521) : astart (aval p) = p := by
  unfold astart aval
  obtain ⟨x, y⟩ := p
  simp only at h ⊢
  rw [Prod.mk.injEq]
  omega
theorem adler_append (s : Int) (l m : List UInt8) : adler (adler s l) m = adler s (l ++ m) := by
  unfold adler
  rw [astart_aval _ (afold_bd l _ (astart_bd s)), List.foldl_append]

theorem adler_zeros (n : Nat) (hn : n < 65521) : adler 1 (List.replicate n 0) = 65536 * (n : Int) + 1 := by
  have h : ∀ k : Nat, k < 65521 → (List.replicate k (0 : UInt8)).foldl astep (astart 1) = (1, (k : Int)) := by
    intro k
    induction k with
    | zero => intro _; decide
    | succ k ih =>
      intro hk
      rw [List.replicate_succ', List.foldl_append, ih (by omega)]
      simp only [List.foldl_cons, List.foldl_nil, astep]
      rw [Prod.mk.injEq]
      have : ((0 : UInt8).toNat : Int) = 0 := rfl
      omega
  unfold adler
  rw [h n hn]
  rfl

theorem adler_parts (s : Int) (l : List UInt8) : adler s l % 65536 < 65521 ∧ adler s l / 65536 < 65521 := by
  have h := afold_bd l _ (astart_bd s)
  unfold adler aval
  omega

/-! One byte turned, or two neighbours exchanged. -/
/-- The fold from two starts whose numbers differ by dx and dy (mod 65521). -/
theorem afold_diff (l : List UInt8) : ∀ p q : Int × Int, (p.1 - q.1) % 65521 = 0 → ∀ d : Int, (p.2 - q.2 - d) % 65521 = 0 →
    ((l.foldl astep p).1 - (l.foldl astep q).1) % 65521 = 0 ∧ ((l.foldl astep p).2 - (l.foldl astep q).2 - d) % 65521 = 0 := by
  induction l with
  | nil => intro p q h d h2; exact ⟨h, h2⟩
  | cons b l ih =>
    intro p q h d h2
    refine ih _ _ ?_ d ?_
    · unfold astep; simp only; omega
    · unfold astep; simp only; omega

theorem afold_diff1 (l : List UInt8) : ∀ p q : Int × Int, ∀ d : Int, (p.1 - q.1 - d) % 65521 = 0 → ((l.foldl astep p).1 - (l.foldl astep q).1 - d) % 65521 = 0 := by
  induction l with
  | nil => intro p q d h; exact h
  | cons b l ih =>
    intro p q d h
    refine ih _ _ d ?_
    unfold astep; simp only; omega

theorem aval_inj {p q : Int × Int} (hp : 0 ≤ p.1 ∧ p.1 < 65521 ∧ 0 ≤ p.2 ∧ p.2 < 65521) (hq : 0 ≤ q.1 ∧ q.1 < 65521 ∧ 0 ≤ q.2 ∧ q.2 < 65521) (h : aval p = aval q) : p = q := by
  unfold aval at h
  obtain ⟨a, b⟩ := p
  obtain ⟨c, d⟩ := q
  simp only at *
  rw [Prod.mk.injEq]
  omega

/-- A byte turned: the sum is another one, unless the byte is the same. -/
theorem adler_turned (s : Int) (a z : List UInt8) (c d : UInt8) (h : adler s (a ++ c :: z) = adler s (a ++ d :: z)) : c = d := by
  unfold adler at h
  have hp := aval_inj (afold_bd _ _ (astart_bd s)) (afold_bd _ _ (astart_bd s)) h
  rw [List.foldl_append, List.foldl_append, List.foldl_cons, List.foldl_cons] at hp
  have hd := afold_diff1 z (astep (a.foldl astep (astart s)) c) (astep (a.foldl astep (astart s)) d) ((c.toNat : Int) - d.toNat) (by unfold astep; simp only; omega)
  rw [hp] at hd
  have hc := c.toNat_lt
  have hd' := d.toNat_lt
  have : c.toNat = d.toNat := by omega
  exact UInt8.toNat_inj.1 this

/-- Two neighbours exchanged. -/
theorem adler_swapped (s : Int) (a z : List UInt8) (c d : UInt8) (h : adler s (a ++ d :: c :: z) = adler s (a ++ c :: d :: z)) : c = d := by
  unfold adler at h
  have hp := aval_inj (afold_bd _ _ (astart_bd s)) (afold_bd _ _ (astart_bd s)) h
  rw [List.foldl_append, List.foldl_append, List.foldl_cons, List.foldl_cons, List.foldl_cons, List.foldl_cons] at hp
  have hd := afold_diff z (astep (astep (a.foldl astep (astart s)) d) c) (astep (astep (a.foldl astep (astart s)) c) d) (by unfold astep; simp only; omega) ((d.toNat : Int) - c.toNat) (by unfold astep; simp only; omega)
  rw [hp] at hd
  have hc := c.toNat_lt
  have hd' := d.toNat_lt
  have : c.toNat = d.toNat := by omega
  exact UInt8.toNat_inj.1 this

theorem split_at (l : List UInt8) (i : Nat) (h : i < l.length) : l = l.take i ++ l[i] :: l.drop (i + 1) := by
  rw [List.getElem_cons_drop, List.take_append_drop]

theorem set_split (l : List UInt8) (i : Nat) (h : i < l.length) (b : UInt8) : l.set i b = l.take i ++ b :: l.drop (i + 1) := by
  rw [List.set_eq_take_append_cons_drop, if_pos h]

/-- The sum of bytes with one turned is another one, but for the same byte. -/
theorem adler_set (s : Int) (l : List UInt8) (i : Nat) (h : i < l.length) (b : UInt8) : (adler s (l.set i b) = adler s l) ↔ b = l[i] := by
  constructor
  · intro e
    rw [set_split l i h] at e
    have e2 : adler s (l.take i ++ b :: l.drop (i + 1)) = adler s (l.take i ++ l[i] :: l.drop (i + 1)) := by rw [e, ← split_at l i h]
    exact adler_turned s _ _ _ _ e2
  · rintro rfl
    rw [List.set_getElem_self]

theorem adler_swap (s : Int) (l : List UInt8) (i : Nat) (h : i + 1 < l.length) : (adler s ((l.set i l[i + 1]).set (i + 1) l[i]) = adler s l) ↔ l[i + 1] = l[i] := by
  have e1 : (l.set i l[i + 1]).set (i + 1) l[i] = l.take i ++ l[i + 1] :: l[i] :: l.drop (i + 2) := by
    rw [set_split _ (i + 1) (by simp; omega), List.take_set, List.drop_set, if_pos (by omega)]
    rw [List.set_eq_take_append_cons_drop, if_pos (by simp; omega), List.take_take, Nat.min_eq_left (by omega)]
    rw [List.append_assoc, List.cons_append]
    congr 2
    rw [List.drop_take]
    simp
  have e0 : l = l.take i ++ l[i] :: l[i + 1] :: l.drop (i + 2) := by
    rw [List.getElem_cons_drop, List.getElem_cons_drop, List.take_append_drop]
  constructor
  · intro e
    rw [e1] at e
    have e2 : adler s (l.take i ++ l[i + 1] :: l[i] :: l.drop (i + 2)) = adler s (l.take i ++ l[i] :: l[i + 1] :: l.drop (i + 2)) := by rw [e, ← e0]
    exact (adler_swapped s _ _ _ _ e2).symm
  · intro e
    rw [e1, e]
    rw [show l.take i ++ l[i] :: l[i] :: l.drop (i + 2) = l from ?_]
    conv => rhs; rw [e0]
    rw [e]

theorem xor_same (a b : UInt8) : a ^^^ b = a ↔ b = 0 := by
  constructor
  · intro h
    have : a ^^^ (a ^^^ b) = a ^^^ a := by rw [h]
    rw [← UInt8.xor_assoc, UInt8.xor_self, UInt8.zero_xor] at this
    exact this
  · rintro rfl
    exact UInt8.xor_zero
end Go.Proofs.Ytcgkoojegopfnaa
