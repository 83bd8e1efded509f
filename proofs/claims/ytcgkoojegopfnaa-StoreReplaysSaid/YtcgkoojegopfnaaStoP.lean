/- Records of a store, as plain functions. -/
import Derived.Test.YtcgkoojegopfnaaVintB
import Derived.IntWalk
namespace Go.Proofs.Ytcgkoojegopfnaa

structure Rcd where
  kind : Int
  a : Int
  b : Int
  x : List UInt8

/-- What the records of a kind may be: of A, of B, of X. -/
structure Kd where
  least : Int
  most : Int
  second : Bool
  mostB : Int
  mostX : Nat

def kd (k : Int) : Kd := if k = 1 then ⟨1, 3, false, 0, 0⟩ else if k = 2 then ⟨0, 1048576, true, 5, 0⟩ else if k = 3 then ⟨1, 64, true, 1048576, 200⟩ else if k = 4 then ⟨1, 64, false, 0, 0⟩ else ⟨0, 0, false, 0, 0⟩
def rOk (r : Rcd) : Bool := decide (1 ≤ r.kind ∧ r.kind ≤ 4 ∧ (kd r.kind).least ≤ r.a ∧ r.a ≤ (kd r.kind).most ∧ 0 ≤ r.b ∧ r.b ≤ (kd r.kind).mostB ∧ r.x.length ≤ (kd r.kind).mostX)
def rBytes (r : Rcd) : List UInt8 := [byteN r.kind.toNat] ++ vput r.a.toNat ++ (if (kd r.kind).second = true then vput r.b.toNat else []) ++ r.x
def rPut (r : Rcd) : List UInt8 × Int := if rOk r = true then (rBytes r, 0) else ([], 1)

theorem rOk_spec {r : Rcd} (h : rOk r = true) : 1 ≤ r.kind ∧ r.kind ≤ 4 ∧ (kd r.kind).least ≤ r.a ∧ r.a ≤ (kd r.kind).most ∧ 0 ≤ r.b ∧ r.b ≤ (kd r.kind).mostB ∧ r.x.length ≤ (kd r.kind).mostX := by
  unfold rOk at h
  exact of_decide_eq_true h

/-- The four kinds. -/
theorem kd_cases {k : Int} (h1 : 1 ≤ k) (h2 : k ≤ 4) : (k = 1 ∧ kd k = ⟨1, 3, false, 0, 0⟩) ∨ (k = 2 ∧ kd k = ⟨0, 1048576, true, 5, 0⟩) ∨ (k = 3 ∧ kd k = ⟨1, 64, true, 1048576, 200⟩) ∨ (k = 4 ∧ kd k = ⟨1, 64, false, 0, 0⟩) := by
  rcases (show k = 1 ∨ k = 2 ∨ k = 3 ∨ k = 4 by omega) with h | h | h | h <;> subst h
  · exact .inl ⟨rfl, rfl⟩
  · exact .inr (.inl ⟨rfl, rfl⟩)
  · exact .inr (.inr (.inl ⟨rfl, rfl⟩))
  · exact .inr (.inr (.inr ⟨rfl, rfl⟩))

theorem rOk_bd {r : Rcd} (h : rOk r = true) : 0 ≤ r.a ∧ r.a ≤ 1048576 ∧ 0 ≤ r.b ∧ r.b ≤ 1048576 ∧ r.x.length ≤ 200 ∧ ((kd r.kind).second = false → r.b = 0 ∧ r.x = []) ∧ (r.kind ≠ 3 → r.x = []) := by
  obtain ⟨h1, h2, h3, h4, h5, h6, h7⟩ := rOk_spec h
  rcases kd_cases h1 h2 with ⟨e, k⟩ | ⟨e, k⟩ | ⟨e, k⟩ | ⟨e, k⟩ <;> rw [k] at h3 h4 h6 h7 <;> rw [k] <;> simp only at h3 h4 h6 h7 ⊢
  · exact ⟨by omega, by omega, by omega, by omega, by omega, fun _ => ⟨by omega, List.eq_nil_of_length_eq_zero (by omega)⟩, fun _ => List.eq_nil_of_length_eq_zero (by omega)⟩
  · exact ⟨by omega, by omega, by omega, by omega, by omega, (fun h => by cases h), fun _ => List.eq_nil_of_length_eq_zero (by omega)⟩
  · exact ⟨by omega, by omega, by omega, by omega, by omega, (fun h => by cases h), fun h => absurd e h⟩
  · exact ⟨by omega, by omega, by omega, by omega, by omega, fun _ => ⟨by omega, List.eq_nil_of_length_eq_zero (by omega)⟩, fun _ => List.eq_nil_of_length_eq_zero (by omega)⟩

/-- What a record may be taken as: then it must be laid down as the same bytes. -/
def wrapN (n : Nat) : Int := IntKind.i64.wrap (n : Int)
def rParse : List UInt8 → Option Rcd
  | [] => none
  | k :: t =>
    if (vtake t).2.2 = 0 then
      if (kd (k.toNat : Int)).second = true then
        if (vtake (t.drop (vtake t).2.1)).2.2 = 0 then some ⟨(k.toNat : Int), wrapN (vtake t).1, wrapN (vtake (t.drop (vtake t).2.1)).1, (t.drop (vtake t).2.1).drop (vtake (t.drop (vtake t).2.1)).2.1⟩ else none
      else some ⟨(k.toNat : Int), wrapN (vtake t).1, 0, t.drop (vtake t).2.1⟩
    else none
def r0 : Rcd := ⟨0, 0, 0, []⟩
def rTake (b : List UInt8) : Rcd × Int := match rParse b with
  | some r => if rOk r = true ∧ rBytes r = b then (r, 0) else (r0, 3)
  | none => (r0, 3)

theorem wrapN_id {n : Nat} (h : n ≤ 9223372036854775807) : wrapN n = (n : Int) := by
  unfold wrapN
  exact IntWalk.i64_in _ (by omega)

theorem rBytes_len {r : Rcd} (h : rOk r = true) : 2 ≤ (rBytes r).length ∧ (rBytes r).length ≤ 221 := by
  obtain ⟨_, _, _, _, h5, _, _⟩ := rOk_bd h
  have h1 := vput_ne r.a.toNat
  have h2 := vsize_le r.a.toNat
  have h3 := vsize_le r.b.toNat
  unfold vsize at h2 h3
  unfold rBytes
  simp only [List.length_append, List.length_cons, List.length_nil]
  split
  · omega
  · simp only [List.length_nil]; omega

/-- A record that was laid down is taken as it was. -/
theorem rTake_put {r : Rcd} (h : rOk r = true) : rTake (rBytes r) = (r, 0) := by
  obtain ⟨b1, b2, b3, b4, b5, b6, b7⟩ := rOk_bd h
  obtain ⟨h1, h2, _⟩ := rOk_spec h
  have hk : (byteN r.kind.toNat).toNat = r.kind.toNat := by rw [byteN_toNat]; omega
  have hk' : (((byteN r.kind.toNat).toNat : Nat) : Int) = r.kind := by rw [hk]; omega
  have hp : rParse (rBytes r) = some r := by
    unfold rBytes
    rw [List.append_assoc, List.append_assoc, List.singleton_append]
    rw [show ∀ k t, rParse (k :: t) = (if (vtake t).2.2 = 0 then
      if (kd (k.toNat : Int)).second = true then
        if (vtake (t.drop (vtake t).2.1)).2.2 = 0 then some ⟨(k.toNat : Int), wrapN (vtake t).1, wrapN (vtake (t.drop (vtake t).2.1)).1, (t.drop (vtake t).2.1).drop (vtake (t.drop (vtake t).2.1)).2.1⟩ else none
      else some ⟨(k.toNat : Int), wrapN (vtake t).1, 0, t.drop (vtake t).2.1⟩
    else none) from fun _ _ => rfl]
    rw [hk', vtake_put _ _ (by omega)]
    rw [if_pos rfl]
    simp only
    have hd : ∀ l : List UInt8, (vput r.a.toNat ++ l).drop (vsize r.a.toNat) = l := fun l => by unfold vsize; simp
    rw [hd]
    split
    · rename_i hs
      rw [vtake_put _ _ (by omega)]
      have hd2 : ∀ l : List UInt8, (vput r.b.toNat ++ l).drop (vsize r.b.toNat) = l := fun l => by unfold vsize; simp
      rw [if_pos rfl, hd2, wrapN_id (by omega), wrapN_id (by omega)]
      congr 1
      obtain ⟨k, a, b, x⟩ := r
      simp only at b1 b3 ⊢
      congr 1 <;> omega
    · rename_i hs
      rw [List.nil_append]
      obtain ⟨e1, e2⟩ := b6 (by simpa using hs)
      rw [wrapN_id (by omega)]
      congr 1
      obtain ⟨k, a, b, x⟩ := r
      simp only at b1 e1 ⊢
      subst e1
      congr 1
      omega
  unfold rTake
  rw [hp]
  show (if rOk r = true ∧ rBytes r = rBytes r then (r, (0 : Int)) else (r0, 3)) = (r, 0)
  rw [if_pos ⟨h, rfl⟩]

theorem rTake_cases (b : List UInt8) : (∃ r, rTake b = (r, 0) ∧ rOk r = true ∧ rBytes r = b) ∨ rTake b = (r0, 3) := by
  unfold rTake
  split
  · split
    · rename_i r _ h
      exact .inl ⟨r, rfl, h.1, h.2⟩
    · exact .inr rfl
  · exact .inr rfl
theorem r0_not : rOk r0 = false := by decide
end Go.Proofs.Ytcgkoojegopfnaa
