/- The document's disk (chapter 14), in memory. -/
import Derived.Test.YtcgkoojegopfnaaDoes
namespace Go.Proofs.Ytcgkoojegopfnaa
open Go.RowKit

theorem Touch.belowB {w w' : World} {B g : Nat} {q : Option Nat} (h : Touch w w' g q) (hg : B ≤ g) (hq : ∀ k, q = some k → B ≤ k) (hB : B ≤ w.heap.size) : Below B w w' :=
  ⟨h.os, h.tape, h.output, h.size, fun k hk => h.block k (by omega) (by omega) (fun e => by have := hq k e.symm; omega)⟩

abbrev TR : TypeId := 43

/-- Block g is the document's disk d, whose bytes lie in block q (if they lie in any), of the call's own from 'base' on. -/
def Rk (w : World) (base g : Nat) (q : Option Nat) (d : Dsk) : Prop :=
  base ≤ g ∧ d.ok ∧ ∃ A n c, q = (Value.slice A n c).ownBlock ∧ Blk w g TR (dCells d A n c) ∧ Own w base A n c d.b

theorem Rk.q_lt {w : World} {base g : Nat} {q : Option Nat} {d : Dsk} (h : Rk w base g q d) : ∀ k, q = some k → base ≤ k ∧ k < w.heap.size ∧ k ≠ g := by
  obtain ⟨_, _, A, n, c, rfl, hb, ho⟩ := h
  intro k hk
  obtain ⟨h1, h2, cs, h3⟩ := ho.row k hk
  refine ⟨h1, h2, fun e => ?_⟩
  subst e
  unfold Blk at hb
  rw [hb] at h3
  injection h3 with h3
  injection h3 with _ h3
  exact absurd h3 (by decide)
theorem Rk.g_lt {w : World} {base g : Nat} {q : Option Nat} {d : Dsk} (h : Rk w base g q d) : g < w.heap.size := by
  obtain ⟨_, _, A, n, c, _, hb, _⟩ := h
  exact hb.lt
/-- It is kept over whatever leaves its blocks alone. -/
theorem Rk.kept {w w' : World} {base g : Nat} {q : Option Nat} {d : Dsk} (h : Rk w base g q d) {g2 : Nat} {q2 : Option Nat} (ht : Touch w w' g2 q2) (h1 : g ≠ g2) (h2 : some g ≠ q2) (h3 : q ≠ some g2) (h4 : ∀ k, q = some k → q2 ≠ some k) : Rk w' base g q d := by
  obtain ⟨hg, hok, A, n, c, rfl, hb, ho⟩ := h
  refine ⟨hg, hok, A, n, c, rfl, (ht.block g hb.lt h1 h2).trans hb, ?_⟩
  obtain ⟨hl, hlen, hv⟩ := ho
  refine ⟨hl, hlen, ?_⟩
  rcases hv with hv | ⟨k, cap, cur, hv, hbk, hk, r⟩
  · exact .inl hv
  · refine .inr ⟨k, cap, cur, hv, hbk, ?_, r⟩
    have hlt : k < w.heap.size := (Array.getElem?_eq_some_iff.1 hk).1
    have hq : (Value.slice A n c).ownBlock = some k := by rw [hv]; rfl
    exact (ht.block k hlt (fun e => h3 (by rw [hq, e])) (fun e => h4 k hq e.symm)).trans hk
theorem Rk.step {w w' : World} {base g : Nat} {q : Option Nat} {d : Dsk} (h : Rk w base g q d) (hb : Below w.heap.size w w') : Rk w' base g q d := by
  obtain ⟨hg, hok, A, n, c, hq, hbk, ho⟩ := h
  exact ⟨hg, hok, A, n, c, hq, hbk.below hb hbk.lt, ho.step hb⟩

/-- A store into the disk's own block leaves its bytes alone. -/
theorem Own.setR {w : World} {base n c g : Nat} {A : Option Addr} {l : List UInt8} {cs : Array Value} (h : Own w base A n c l) (hb : Blk w g TR cs) (i : Nat) (u : Value) : Own (w.setCell ⟨g, i, none⟩ u) base A n c l :=
  Ob.keptT h (grown_cell w g i u) (notT_blk hb (by decide))
theorem Rk.ge {w : World} {base g : Nat} {q : Option Nat} {d : Dsk} (h : Rk w base g q d) : base ≤ g := h.1
theorem Rk.qge {w : World} {base g : Nat} {q : Option Nat} {d : Dsk} (h : Rk w base g q d) : ∀ k, q = some k → base ≤ k := fun k hk => (h.q_lt k hk).1
theorem Rk.glt {w : World} {base g : Nat} {q : Option Nat} {d : Dsk} (h : Rk w base g q d) : ∀ k, q = some k → k < w.heap.size := fun k hk => (h.q_lt k hk).2.1
/-- What a method does to a disk: what it tells, and how the disk is then. -/
def RDoes (w : World) (base g : Nat) (q : Option Nat) (d : Dsk) (v : Value) (e : Ending) (w' : World) : Prop :=
  ∃ q', e = .returned v ∧ Rk w' base g q' d ∧ Touch w w' g q ∧ Moved w q q'
theorem RDoes.pre {w w1 w' : World} {base g : Nat} {q : Option Nat} {d : Dsk} {v : Value} {e : Ending} (hb : Below w.heap.size w w1) (h : RDoes w1 base g q d v e w') : RDoes w base g q d v e w' := by
  obtain ⟨q', h1, h2, h3, h4⟩ := h
  exact ⟨q', h1, h2, (Touch.of_below hb).trans h3, h4.pre hb.size⟩
end Go.Proofs.Ytcgkoojegopfnaa
