/- Slices of bytes that read as a list, over any world: nil and empty ones let in. -/
import Derived.WalkKit
import Derived.WalkLawsBesides
import Derived.Lib.Hide
import Derived.Deep.Draws
namespace Go.Proofs.Ytcgkoojegopfnaa
open Go.RowKit

/-- The slice's address A leads to the bytes l, in a block below B. -/
def Bs (w : World) (B : Nat) (A : Option Addr) (l : List UInt8) : Prop :=
  0 < l.length → ∃ b off, A = some ⟨b, off, none⟩ ∧ b < B ∧ ∀ i, i < l.length → w.cell? ⟨b, off + i, none⟩ = some (.int .u8 ((l.getD i 0).toNat : Int))

theorem Bs.nil {w : World} {B : Nat} {A : Option Addr} : Bs w B A [] := fun h => absurd h (by simp)

theorem Bs.keep {w w' : World} {B : Nat} {A : Option Addr} {l : List UInt8} (h : Bs w B A l) (hk : ∀ p : Addr, p.block < B → w'.cell? p = w.cell? p) : Bs w' B A l :=
  fun hl => by
    obtain ⟨b, off, rfl, hb, hc⟩ := h hl
    exact ⟨b, off, rfl, hb, fun i hi => (hk _ hb).trans (hc i hi)⟩

theorem Bs.more {w : World} {B B' : Nat} {A : Option Addr} {l : List UInt8} (h : Bs w B A l) (hB : B ≤ B') : Bs w B' A l :=
  fun hl => by
    obtain ⟨b, off, rfl, hb, hc⟩ := h hl
    exact ⟨b, off, rfl, by omega, hc⟩

theorem Bs.below {w w' : World} {B : Nat} {A : Option Addr} {l : List UInt8} (h : Bs w B A l) (hb : Below B w w') : Bs w' B A l := h.keep fun _ hp => hb.cell hp
/-- What is there when a call begins is there behind it. -/
theorem Bs.step {w w' : World} {A : Option Addr} {l : List UInt8} (h : Bs w w.heap.size A l) (hb : Below w.heap.size w w') : Bs w' w'.heap.size A l := (h.below hb).more hb.size

/-- A call behind a call. -/
theorem chain {w w1 w2 : World} (h : Below w.heap.size w w1) (k : Below w1.heap.size w1 w2) : Below w.heap.size w w2 := h.trans (k.mono h.size)

theorem Bs.take {w : World} {B : Nat} {A : Option Addr} {l : List UInt8} (h : Bs w B A l) (n : Nat) : Bs w B A (l.take n) := fun hl => by
  obtain ⟨b, off, rfl, hb, hc⟩ := h (by simp at hl; omega)
  refine ⟨b, off, rfl, hb, fun i hi => ?_⟩
  have hi' : i < n ∧ i < l.length := by simp at hi; omega
  rw [hc i hi'.2]
  simp [hi'.1]

theorem Bs.drop {w : World} {B b off : Nat} {l : List UInt8} (h : Bs w B (some ⟨b, off, none⟩) l) (n : Nat) : Bs w B (some ⟨b, off + n, none⟩) (l.drop n) := fun hl => by
  have hl' : n < l.length := by simp at hl; omega
  obtain ⟨b', off', he, hb, hc⟩ := h (by omega)
  injection he with he
  injection he with h1 h2
  subst h1 h2
  refine ⟨b, off + n, rfl, hb, fun i hi => ?_⟩
  have hi' : n + i < l.length := by simp at hi; omega
  rw [Nat.add_assoc, hc (n + i) hi']
  simp

theorem Bs.drewN {w : World} {B : Nat} {A : Option Addr} {l : List UInt8} (h : Bs w B A l) (k : Nat) : Bs (w.drewN k) B A l := h.keep fun _ _ => rfl

theorem below_drewN {B : Nat} {a w : World} (h : Below B a w) (k : Nat) : Below B a (w.drewN k) := ⟨h.os, h.tape, h.output, h.size, h.block⟩

/-- A byte as a cell holds it. -/
def bv (b : UInt8) : Value := .int .u8 (b.toNat : Int)

/-- A new block whose cells are the bytes l (and perhaps more), whatever its mark. -/
theorem Bs.new {w : World} {C : Array Value} {t : TypeId} {fr : Nat × Nat} {l : List UInt8} {B : Nat} (hB : w.heap.size < B) (h : C.toList.take l.length = l.map bv) : Bs (w.alloc (.cells C t fr)) B (some ⟨w.heap.size, 0, none⟩) l :=
  fun _ => ⟨w.heap.size, 0, rfl, hB, fun i hi => by
    rw [World.cell?_alloc_mark, Nat.zero_add]
    have h2 : (C.toList.take l.length)[i]? = (l.map bv)[i]? := by rw [h]
    rw [List.getElem?_take, if_pos hi] at h2
    simp [hi, bv] at h2 ⊢
    exact h2⟩

/-- Block g holds just the cells cs (of type t), none of them frozen. -/
def Blk (w : World) (g : Nat) (t : TypeId) (cs : Array Value) : Prop := w.heap[g]? = some (.cells cs t (0, 0))

section
variable {w w' : World} {g : Nat} {t : TypeId} {cs : Array Value}
theorem Blk.cell (h : Blk w g t cs) (i : Nat) : w.cell? ⟨g, i, none⟩ = cs[i]? := cell_of_row w g i cs t (0, 0) h
theorem Blk.free (h : Blk w g t cs) (i : Nat) : w.frozen? ⟨g, i, none⟩ = false := by unfold Blk at h; simp [World.frozen?, h]
theorem Blk.lt (h : Blk w g t cs) : g < w.heap.size := (Array.getElem?_eq_some_iff.1 h).1
theorem Blk.new (w : World) (t : TypeId) (cs : Array Value) : Blk (w.alloc (.cells cs t)) w.heap.size t cs := heap_alloc_new w _
theorem Blk.set (h : Blk w g t cs) (i : Nat) (u : Value) : Blk (w.setCell ⟨g, i, none⟩ u) g t (cs.setIfInBounds i u) := by
  unfold Blk at h ⊢
  simp [World.setCell, Array.getElem?_modify, h]
theorem Blk.far (h : Blk w g t cs) {p : Addr} (hp : g ≠ p.block) (u : Value) : Blk (w.setCell p u) g t cs := (Below.heap_setCell w p u g hp).trans h
theorem Blk.alloc (h : Blk w g t cs) (o : Obj) : Blk (w.alloc o) g t cs := (Below.heap_alloc w o g h.lt).trans h
theorem Blk.below {B : Nat} (h : Blk w g t cs) (hb : Below B w w') (hg : g < B) : Blk w' g t cs := (hb.block g hg).trans h
theorem Blk.grown {row : Option Nat} (h : Blk w g t cs) (hb : w.grownBy w' row) (hg : some g ≠ row) : Blk w' g t cs := (hb.block g h.lt hg).trans h
end

end Go.Proofs.Ytcgkoojegopfnaa
