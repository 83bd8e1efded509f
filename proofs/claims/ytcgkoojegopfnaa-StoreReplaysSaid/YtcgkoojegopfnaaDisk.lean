/- Disks, as plain functions and in memory. -/
import Derived.Test.YtcgkoojegopfnaaApp
import Derived.Test.YtcgkoojegopfnaaProg
namespace Go.Proofs.Ytcgkoojegopfnaa
open Go.RowKit

/-- A disk: its bytes, how many are synced, whether it is down, whether it is doomed, and with what. -/
structure Dsk where
  b : List UInt8
  syn : Nat
  down : Bool
  doomed : Bool
  keep : Int

def Dsk.ok (d : Dsk) : Prop := d.syn ≤ d.b.length ∧ d.b.length ≤ 65536
def dNew : Dsk := ⟨[], 0, false, false, 0⟩
def dAppend (d : Dsk) (x : List UInt8) : Dsk × Int :=
  if d.down = true then (d, 30) else if 65536 < d.b.length + x.length then (d, 20) else ({ d with b := d.b ++ x }, 0)
/-- How many bytes more than the synced ones stay. -/
def dStay (d : Dsk) (keep : Int) : Nat := min keep.toNat (d.b.length - d.syn)
def dCrash (d : Dsk) (keep : Int) : Dsk := ⟨d.b.take (d.syn + dStay d keep), d.syn + dStay d keep, true, false, 0⟩
def dSync (d : Dsk) : Dsk × Int :=
  if d.down = true then (d, 30) else if d.doomed = true then (dCrash d d.keep, 30) else ({ d with syn := d.b.length }, 0)
def dDoom (d : Dsk) (keep : Int) : Dsk := { d with doomed := true, keep := keep }
def dUp (d : Dsk) : Dsk × Int := if d.down = true then ({ d with down := false, doomed := false, keep := 0 }, 0) else (d, 31)
def dCut (d : Dsk) (n : Int) : Dsk × Int :=
  if d.down = true then (d, 30) else if n < 0 ∨ (d.b.length : Int) < n then (d, 1) else ({ d with b := d.b.take n.toNat, syn := n.toNat }, 0)

theorem dNew_ok : dNew.ok := ⟨Nat.le_refl _, by decide⟩
theorem Dsk.ok.append {d : Dsk} (h : d.ok) (x : List UInt8) : (dAppend d x).1.ok := by
  unfold dAppend
  split
  · exact h
  · split
    · exact h
    · refine ⟨?_, ?_⟩
      · show d.syn ≤ (d.b ++ x).length
        rw [List.length_append]; have := h.1; omega
      · show (d.b ++ x).length ≤ 65536
        rw [List.length_append]; omega
theorem Dsk.ok.crash {d : Dsk} (h : d.ok) (k : Int) : (dCrash d k).ok := by
  have h1 := h.1
  have h2 := h.2
  have : dStay d k ≤ d.b.length - d.syn := Nat.min_le_right _ _
  refine ⟨?_, ?_⟩
  · show d.syn + dStay d k ≤ (d.b.take (d.syn + dStay d k)).length
    rw [List.length_take]; omega
  · show (d.b.take (d.syn + dStay d k)).length ≤ 65536
    rw [List.length_take]; omega
theorem Dsk.ok.sync {d : Dsk} (h : d.ok) : (dSync d).1.ok := by
  unfold dSync
  split
  · exact h
  · split
    · exact h.crash _
    · exact ⟨Nat.le_refl _, h.2⟩
theorem Dsk.ok.doom {d : Dsk} (h : d.ok) (k : Int) : (dDoom d k).ok := h
theorem Dsk.ok.up {d : Dsk} (h : d.ok) : (dUp d).1.ok := by
  unfold dUp
  split
  · exact h
  · exact h
theorem Dsk.ok.cut {d : Dsk} (h : d.ok) (n : Int) : (dCut d n).1.ok := by
  unfold dCut
  split
  · exact h
  · split
    · exact h
    · refine ⟨?_, ?_⟩
      · show n.toNat ≤ (d.b.take n.toNat).length
        rw [List.length_take]; omega
      · show (d.b.take n.toNat).length ≤ 65536
        rw [List.length_take]; have := h.2; omega

abbrev TD : TypeId := 75

/-- Nothing that was there is changed but block g and the block q, if there is one. -/
structure Touch (w w' : World) (g : Nat) (q : Option Nat) : Prop where
  os : w'.os = w.os
  tape : w'.tape = w.tape
  output : w'.output = w.output
  size : w.heap.size ≤ w'.heap.size
  block : ∀ k, k < w.heap.size → k ≠ g → some k ≠ q → w'.heap[k]? = w.heap[k]?

theorem Touch.refl (w : World) (g : Nat) (q : Option Nat) : Touch w w g q := ⟨rfl, rfl, rfl, Nat.le_refl _, fun _ _ _ _ => rfl⟩
theorem Touch.of_below {w w' : World} {g : Nat} {q : Option Nat} (h : Below w.heap.size w w') : Touch w w' g q := ⟨h.os, h.tape, h.output, h.size, fun k hk _ _ => h.block k hk⟩
theorem Touch.below {w0 w w' : World} {g : Nat} {q : Option Nat} (hb : Below w0.heap.size w0 w) (h : Touch w w' g q) (hg : w0.heap.size ≤ g) (hq : ∀ k, q = some k → w0.heap.size ≤ k) : Below w0.heap.size w0 w' :=
  ⟨h.os.trans hb.os, h.tape.trans hb.tape, h.output.trans hb.output, Nat.le_trans hb.size h.size, fun k hk => (h.block k (Nat.lt_of_lt_of_le hk hb.size) (by omega) (fun e => by have := hq k e.symm; omega)).trans (hb.block k hk)⟩
theorem Touch.set {w w' : World} {g : Nat} {q : Option Nat} (h : Touch w w' g q) (i : Nat) (u : Value) : Touch w (w'.setCell ⟨g, i, none⟩ u) g q :=
  ⟨h.os, h.tape, h.output, by simp; exact h.size, fun k hk h1 h2 => (Below.heap_setCell w' ⟨g, i, none⟩ u k h1).trans (h.block k hk h1 h2)⟩
theorem Touch.drew {w w' : World} {g : Nat} {q : Option Nat} (h : Touch w w' g q) : Touch w w'.drew g q := ⟨h.os, h.tape, h.output, h.size, h.block⟩
theorem Touch.drewN {w w' : World} {g : Nat} {q : Option Nat} (h : Touch w w' g q) (n : Nat) : Touch w (w'.drewN n) g q := ⟨h.os, h.tape, h.output, h.size, h.block⟩

/-- The cells of a disk. -/
def dCells (d : Dsk) (A : Option Addr) (n c : Nat) : Array Value := #[.slice A n c, .int .i64 (d.syn : Int), .bool d.down, .bool d.doomed, .int .i64 d.keep]

/-- Block g is the disk d, whose bytes lie in block q (if they lie in any), of the call's own from 'base' on. -/
def Dk (w : World) (base g : Nat) (q : Option Nat) (d : Dsk) : Prop :=
  base ≤ g ∧ d.ok ∧ ∃ A n c, q = (Value.slice A n c).ownBlock ∧ Blk w g TD (dCells d A n c) ∧ Own w base A n c d.b

theorem Own.row {w : World} {base n c : Nat} {A : Option Addr} {l : List UInt8} (h : Own w base A n c l) : ∀ k, (Value.slice A n c).ownBlock = some k → base ≤ k ∧ k < w.heap.size ∧ ∃ cs, w.heap[k]? = some (.cells cs 5 (0, 0)) := h.ov.row
theorem Dk.q_lt {w : World} {base g : Nat} {q : Option Nat} {d : Dsk} (h : Dk w base g q d) : ∀ k, q = some k → base ≤ k ∧ k < w.heap.size ∧ k ≠ g := by
  obtain ⟨_, _, A, n, c, rfl, hb, ho⟩ := h
  intro k hk
  obtain ⟨h1, h2, cs, h3⟩ := ho.row k hk
  refine ⟨h1, h2, fun e => ?_⟩
  subst e
  unfold Blk at hb
  rw [hb] at h3
  injection h3 with h3
  injection h3 with _ h3
  exact absurd h3 (by decide)
theorem Dk.g_lt {w : World} {base g : Nat} {q : Option Nat} {d : Dsk} (h : Dk w base g q d) : g < w.heap.size := by
  obtain ⟨_, _, A, n, c, _, hb, _⟩ := h
  exact hb.lt
/-- It is kept over whatever leaves its blocks alone. -/
theorem Dk.kept {w w' : World} {base g : Nat} {q : Option Nat} {d : Dsk} (h : Dk w base g q d) {g2 : Nat} {q2 : Option Nat} (ht : Touch w w' g2 q2) (h1 : g ≠ g2) (h2 : some g ≠ q2) (h3 : q ≠ some g2) (h4 : ∀ k, q = some k → q2 ≠ some k) : Dk w' base g q d := by
  obtain ⟨hg, hok, A, n, c, rfl, hb, ho⟩ := h
  refine ⟨hg, hok, A, n, c, rfl, (ht.block g hb.lt h1 h2).trans hb, ?_⟩
  obtain ⟨hl, hlen, hv⟩ := ho
  refine ⟨hl, hlen, ?_⟩
  rcases hv with hv | ⟨k, cap, cur, hv, hbk, hk, r⟩
  · exact .inl hv
  · refine .inr ⟨k, cap, cur, hv, hbk, ?_, r⟩
    have hlt : k < w.heap.size := (Array.getElem?_eq_some_iff.1 hk).1
    have hq : (Value.slice A n c).ownBlock = some k := by rw [hv]; rfl
    exact (ht.block k hlt (fun e => h3 (by rw [hq, e])) (fun e => h4 k hq e.symm)).trans hk
theorem Dk.step {w w' : World} {base g : Nat} {q : Option Nat} {d : Dsk} (h : Dk w base g q d) (hb : Below w.heap.size w w') : Dk w' base g q d := by
  obtain ⟨hg, hok, A, n, c, hq, hbk, ho⟩ := h
  exact ⟨hg, hok, A, n, c, hq, hbk.below hb hbk.lt, ho.step hb⟩

theorem grown_setCell {w0 w : World} {g : Nat} (h : w0.grownBy w (some g)) (i : Nat) (u : Value) : w0.grownBy (w.setCell ⟨g, i, none⟩ u) (some g) :=
  ⟨h.os, h.tape, h.output, by simp; exact h.size, fun k hk hne => (Below.heap_setCell w ⟨g, i, none⟩ u k (fun e => hne (by rw [e]))).trans (h.block k hk hne)⟩
theorem grown_cell (w : World) (g i : Nat) (u : Value) : w.grownBy (w.setCell ⟨g, i, none⟩ u) (some g) := grown_setCell (World.grownBy.refl w _) i u
theorem notT_blk {w : World} {g : Nat} {t E : TypeId} {cs : Array Value} (h : Blk w g t cs) (hne : t ≠ E) : NotT w (some g) E := by
  intro k hk cs' fr e
  injection hk with hk
  subst hk
  unfold Blk at h
  rw [h] at e
  injection e with e
  injection e with _ e
  exact hne e
/-- A store into the disk's own block leaves its bytes alone. -/
theorem Own.setD {w : World} {base n c g : Nat} {A : Option Addr} {l : List UInt8} {cs : Array Value} (h : Own w base A n c l) (hb : Blk w g TD cs) (i : Nat) (u : Value) : Own (w.setCell ⟨g, i, none⟩ u) base A n c l :=
  Ob.keptT h (grown_cell w g i u) (notT_blk hb (by decide))
theorem Touch.grown {w w' : World} {g : Nat} {q : Option Nat} (h : w.grownBy w' q) : Touch w w' g q := ⟨h.os, h.tape, h.output, h.size, fun k hk _ h2 => h.block k hk h2⟩
/-- The bytes lie where they lay, or in a new block. -/
def Moved (w : World) (q q' : Option Nat) : Prop := q' = q ∨ ∃ k, q' = some k ∧ w.heap.size ≤ k
/-- What a method does to a disk: what it tells, and how the disk is then. -/
def Does (w : World) (base g : Nat) (q : Option Nat) (d : Dsk) (v : Value) (e : Ending) (w' : World) : Prop :=
  ∃ q', e = .returned v ∧ Dk w' base g q' d ∧ Touch w w' g q ∧ Moved w q q'
end Go.Proofs.Ytcgkoojegopfnaa
