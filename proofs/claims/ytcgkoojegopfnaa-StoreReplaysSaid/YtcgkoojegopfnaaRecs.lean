/- Rows of records: slices of slices of bytes. -/
import Derived.Test.YtcgkoojegopfnaaAppend
import Derived.Test.YtcgkoojegopfnaaOv
namespace Go.Proofs.Ytcgkoojegopfnaa
open Go.RowKit

/-- A slice of slices of bytes that reads as L: its cells and all bytes lie below block B. -/
def Rr (w : World) (B : Nat) (A : Option Addr) (L : List (List UInt8)) : Prop :=
  0 < L.length → ∃ b off, A = some ⟨b, off, none⟩ ∧ b < B ∧ ∀ i, i < L.length → ∃ Ai ci, w.cell? ⟨b, off + i, none⟩ = some (.slice Ai (L.getD i []).length ci) ∧ (L.getD i []).length ≤ ci ∧ ci ≤ maxLen ∧ Bs w B Ai (L.getD i [])

theorem Rr.nil {w : World} {B : Nat} {A : Option Addr} : Rr w B A [] := fun h => absurd h (by simp)
theorem Rr.keep {w w' : World} {B : Nat} {A : Option Addr} {L : List (List UInt8)} (h : Rr w B A L) (hk : ∀ p : Addr, p.block < B → w'.cell? p = w.cell? p) : Rr w' B A L := fun hl => by
  obtain ⟨b, off, rfl, hb, hc⟩ := h hl
  refine ⟨b, off, rfl, hb, fun i hi => ?_⟩
  obtain ⟨Ai, ci, h1, h2, h2', h3⟩ := hc i hi
  exact ⟨Ai, ci, (hk _ hb).trans h1, h2, h2', h3.keep hk⟩
theorem Rr.more {w : World} {B B' : Nat} {A : Option Addr} {L : List (List UInt8)} (h : Rr w B A L) (hB : B ≤ B') : Rr w B' A L := fun hl => by
  obtain ⟨b, off, rfl, hb, hc⟩ := h hl
  refine ⟨b, off, rfl, by omega, fun i hi => ?_⟩
  obtain ⟨Ai, ci, h1, h2, h2', h3⟩ := hc i hi
  exact ⟨Ai, ci, h1, h2, h2', h3.more hB⟩
theorem Rr.below {w w' : World} {B : Nat} {A : Option Addr} {L : List (List UInt8)} (h : Rr w B A L) (hb : Below B w w') : Rr w' B A L := h.keep fun _ hp => hb.cell hp
theorem Rr.step {w w' : World} {A : Option Addr} {L : List (List UInt8)} (h : Rr w w.heap.size A L) (hb : Below w.heap.size w w') : Rr w' w'.heap.size A L := (h.below hb).more hb.size
theorem Rr.drewN {w : World} {B : Nat} {A : Option Addr} {L : List (List UInt8)} (h : Rr w B A L) (k : Nat) : Rr (w.drewN k) B A L := h.keep fun _ _ => rfl
theorem Rr.take {w : World} {B : Nat} {A : Option Addr} {L : List (List UInt8)} (h : Rr w B A L) (n : Nat) : Rr w B A (L.take n) := fun hl => by
  obtain ⟨b, off, rfl, hb, hc⟩ := h (by simp at hl; omega)
  refine ⟨b, off, rfl, hb, fun i hi => ?_⟩
  have hi' : i < n ∧ i < L.length := by simp at hi; omega
  have e : (L.take n).getD i [] = L.getD i [] := by simp [hi'.1]
  rw [e]
  exact hc i hi'.2

/-- A record that a row of the call's own may hold: its bytes lie below 'base', or in a block of bytes. -/
def El (w : World) (base : Nat) (E : TypeId) (A : Option Addr) (l : List UInt8) : Prop :=
  0 < l.length → ∃ b off, A = some ⟨b, off, none⟩ ∧ b < w.heap.size ∧ (b < base ∨ ∃ cs fr, w.heap[b]? = some (.cells cs E fr)) ∧ ∀ i, i < l.length → w.cell? ⟨b, off + i, none⟩ = some (.int .u8 ((l.getD i 0).toNat : Int))

theorem El.bs {w : World} {base : Nat} {E : TypeId} {A : Option Addr} {l : List UInt8} (h : El w base E A l) : Bs w w.heap.size A l := fun hl => by
  obtain ⟨b, off, rfl, hb, _, hc⟩ := h hl
  exact ⟨b, off, rfl, hb, hc⟩
theorem El.of_bs {w : World} {base : Nat} {E : TypeId} {A : Option Addr} {l : List UInt8} (h : Bs w base A l) (hb : base ≤ w.heap.size) : El w base E A l := fun hl => by
  obtain ⟨b, off, rfl, hb', hc⟩ := h hl
  exact ⟨b, off, rfl, by omega, .inl hb', hc⟩
theorem El.of_own {w : World} {base base' n c : Nat} {E : TypeId} {A : Option Addr} {l : List UInt8} (h : Ob w base' E A n c l) : El w base E A l := fun hl => by
  have hs := h.bs
  obtain ⟨b, off, rfl, hb, hc⟩ := hs hl
  refine ⟨b, off, rfl, hb, .inr ?_, hc⟩
  rcases h.2.2 with ⟨hv, _⟩ | ⟨g, cap, cur, hv, _, hg, _⟩
  · simp at hv
  · injection hv with hA
    injection hA with hA
    injection hA with h1
    subst h1
    exact ⟨cur, _, hg⟩
theorem El.take {w : World} {base : Nat} {E : TypeId} {A : Option Addr} {l : List UInt8} (h : El w base E A l) (n : Nat) : El w base E A (l.take n) := fun hl => by
  obtain ⟨b, off, rfl, hb, ht, hc⟩ := h (by simp at hl; omega)
  refine ⟨b, off, rfl, hb, ht, fun i hi => ?_⟩
  have hi' : i < n ∧ i < l.length := by simp at hi; omega
  rw [hc i hi'.2]
  simp [hi'.1]
/-- It is kept over whatever leaves blocks of bytes and what was there alone. -/
theorem El.kept {w w' : World} {base : Nat} {E : TypeId} {A : Option Addr} {l : List UInt8} {row : Option Nat} (h : El w base E A l) (hg : w.grownBy w' row)
    (hrow : ∀ g, row = some g → base ≤ g ∧ ∀ cs fr, w.heap[g]? ≠ some (.cells cs E fr)) : El w' base E A l := fun hl => by
  obtain ⟨b, off, rfl, hb, ht, hc⟩ := h hl
  have hne : some b ≠ row := by
    intro e
    obtain ⟨h1, h2⟩ := hrow b e.symm
    rcases ht with ht | ⟨cs, fr, ht⟩
    · omega
    · exact h2 cs fr ht
  have hblk := hg.block b hb hne
  refine ⟨b, off, rfl, Nat.lt_of_lt_of_le hb hg.size, ?_, fun i hi => (World.cell?_of_block (a := ⟨b, off + i, none⟩) hblk).trans (hc i hi)⟩
  rcases ht with ht | ⟨cs, fr, ht⟩
  · exact .inl ht
  · exact .inr ⟨cs, fr, hblk.trans ht⟩
theorem El.step {w w' : World} {base : Nat} {E : TypeId} {A : Option Addr} {l : List UInt8} (h : El w base E A l) (hb : Below w.heap.size w w') : El w' base E A l :=
  h.kept (row := none) ⟨hb.os, hb.tape, hb.output, hb.size, fun k hk _ => hb.block k hk⟩ (by simp)

/-- A row of records of the call's own (R: the type of a record, E: that of a byte). -/
def Rw (w : World) (base : Nat) (R E : TypeId) (A : Option Addr) (n c : Nat) (L : List (List UInt8)) : Prop :=
  L.length = n ∧ ∃ vs : List Value, Ov w base R 1 A n c vs ∧ ∀ i, i < L.length → ∃ Ai ci, vs[i]? = some (.slice Ai (L.getD i []).length ci) ∧ (L.getD i []).length ≤ ci ∧ ci ≤ maxLen ∧ El w base E Ai (L.getD i [])

section
variable {w w' : World} {base n c : Nat} {R E : TypeId} {A : Option Addr} {L : List (List UInt8)}
theorem Rw.nil_ (w : World) (base : Nat) (R E : TypeId) : Rw w base R E none 0 0 [] := ⟨rfl, [], Ov.nil_ _ _ _ _, fun i hi => absurd hi (by simp)⟩
theorem Rw.empty (hb : base ≤ w.heap.size) : Rw (w.alloc (.cells #[] R)) base R E (some ⟨w.heap.size, 0, none⟩) 0 0 [] := ⟨rfl, [], Ov.empty hb, fun i hi => absurd hi (by simp)⟩
theorem Rw.kept {row : Option Nat} (h : Rw w base R E A n c L) (hg : w.grownBy w' row) (hne : ∀ a, A = some a → row ≠ some a.block)
    (hrow : ∀ g, row = some g → base ≤ g ∧ ∀ cs fr, w.heap[g]? ≠ some (.cells cs E fr)) : Rw w' base R E A n c L := by
  obtain ⟨hn, vs, ho, hi⟩ := h
  refine ⟨hn, vs, ho.kept hg hne, fun i hlt => ?_⟩
  obtain ⟨Ai, ci, h1, h2, h2', h3⟩ := hi i hlt
  exact ⟨Ai, ci, h1, h2, h2', h3.kept hg hrow⟩
theorem Rw.notT {E' : TypeId} (h : Rw w base R E A n c L) (hne : R ≠ E') : NotT w (Value.slice A n c).ownBlock E' := by
  obtain ⟨_, vs, ho, _⟩ := h
  exact ho.notT hne
theorem Rw.row (h : Rw w base R E A n c L) : ∀ g, (Value.slice A n c).ownBlock = some g → base ≤ g := by
  obtain ⟨_, vs, ho, _⟩ := h
  exact fun g hg => (ho.row g hg).1
theorem Rw.keptT {row : Option Nat} (h : Rw w base R E A n c L) (hg : w.grownBy w' row) (hb : ∀ g, row = some g → base ≤ g) (hR : NotT w row R) (hE : NotT w row E) : Rw w' base R E A n c L := by
  obtain ⟨hn, vs, ho, hi⟩ := h
  refine ⟨hn, vs, ho.keptT hg hR, fun i hlt => ?_⟩
  obtain ⟨Ai, ci, h1, h2, h2', h3⟩ := hi i hlt
  exact ⟨Ai, ci, h1, h2, h2', h3.kept hg (fun g hg' => ⟨hb g hg', hE g hg'⟩)⟩
theorem Rw.step (h : Rw w base R E A n c L) (hb : Below w.heap.size w w') : Rw w' base R E A n c L := by
  obtain ⟨hn, vs, ho, hi⟩ := h
  refine ⟨hn, vs, ho.step hb, fun i hlt => ?_⟩
  obtain ⟨Ai, ci, h1, h2, h2', h3⟩ := hi i hlt
  exact ⟨Ai, ci, h1, h2, h2', h3.step hb⟩
theorem Rw.cap (h : Rw w base R E A n c L) : n ≤ c ∧ c ≤ maxLen := by
  obtain ⟨_, vs, ho, _⟩ := h
  exact ho.cap
theorem Rw.rr (h : Rw w base R E A n c L) : Rr w w.heap.size A L := fun hl => by
  obtain ⟨hn, vs, ho, hi⟩ := h
  obtain ⟨g, rfl, hg1, hg2, _, hc, _⟩ := ho.at_ (by omega)
  refine ⟨g, 0, rfl, hg2, fun i hlt => ?_⟩
  obtain ⟨Ai, ci, h1, h2, h2', h3⟩ := hi i hlt
  exact ⟨Ai, ci, by rw [Nat.zero_add]; exact hc i _ h1, h2, h2', h3.bs⟩
/-- Behind the append of one record more. -/
theorem Rw.snoc {A' : Option Addr} {c' m cx : Nat} {x : List UInt8} {Ax : Option Addr} (hRE : R ≠ E) (h : Rw w base R E A n c L) (hg : w.grownBy w' (Value.slice A n c).ownBlock)
    (hx : El w base E Ax x) (hxm : x.length = m) (hxc : m ≤ cx) (hxc2 : cx ≤ maxLen) (ho' : ∀ vs, Ov w base R 1 A n c vs → Ov w' base R 1 A' (n + 1) c' (vs ++ [.slice Ax m cx])) : Rw w' base R E A' (n + 1) c' (L ++ [x]) := by
  obtain ⟨hn, vs, ho, hi⟩ := h
  have hlen := ho.len
  have hrow : ∀ g, (Value.slice A n c).ownBlock = some g → base ≤ g ∧ ∀ cs fr, w.heap[g]? ≠ some (.cells cs E fr) := by
    intro g hg'
    obtain ⟨h1, _, cs, h2⟩ := ho.row g hg'
    refine ⟨h1, fun cs' fr' e => ?_⟩
    rw [h2] at e
    injection e with e
    injection e with _ e
    exact hRE e
  refine ⟨by rw [List.length_append, hn]; rfl, _, ho' vs ho, fun i hlt => ?_⟩
  rw [List.length_append, List.length_singleton] at hlt
  by_cases hi' : i < L.length
  · obtain ⟨Ai, ci, h1, h2, h2', h3⟩ := hi i hi'
    have e : (L ++ [x]).getD i [] = L.getD i [] := by simp [List.getElem?_append, hi']
    rw [e]
    exact ⟨Ai, ci, by rw [List.getElem?_append_left (by omega)]; exact h1, h2, h2', h3.kept hg hrow⟩
  · obtain rfl : i = L.length := by omega
    have e : (L ++ [x]).getD L.length [] = x := by simp
    rw [e]
    refine ⟨Ax, cx, ?_, by omega, hxc2, hx.kept hg hrow⟩
    rw [List.getElem?_append_right (by omega), hxm, hlen, hn]
    simp
end

end Go.Proofs.Ytcgkoojegopfnaa
