/- Rows of things that are done to a disk, in memory; how such an argument is opened. -/
import Derived.Test.YtcgkoojegopfnaaOpF
import Derived.Test.YtcgkoojegopfnaaProg
import Derived.Test.YtcgkoojegopfnaaDisk
namespace Go.Proofs.Ytcgkoojegopfnaa
open Go.ChangeShapes Go.WideShapes Go.ChangeAt Go.RowKit Go.Deep

structure Opn where
  kind : UInt8
  n : Int
  b : List UInt8
instance : Inhabited Opn := ⟨⟨0, 0, []⟩⟩

/-- A slice of such things that reads as L. -/
def Po (w : World) (B : Nat) (A : Option Addr) (L : List Opn) : Prop :=
  ∀ k x, L[k]? = some x → ∃ b off Ac cc, A = some ⟨b, off, none⟩ ∧ b < B ∧ w.cell? ⟨b, off + k * 3, none⟩ = some (.int .u8 (x.kind.toNat : Int)) ∧ w.cell? ⟨b, off + k * 3 + 1, none⟩ = some (.int .i64 x.n) ∧
    w.cell? ⟨b, off + k * 3 + 2, none⟩ = some (.slice Ac x.b.length cc) ∧ x.b.length ≤ cc ∧ cc ≤ maxLen ∧ (-9223372036854775808 ≤ x.n ∧ x.n ≤ 9223372036854775807) ∧ Bs w B Ac x.b

theorem Po.below {w w' : World} {B : Nat} {A : Option Addr} {L : List Opn} (h : Po w B A L) (hb : Below B w w') : Po w' B A L := fun k x hx => by
  obtain ⟨b, off, Ac, cc, h1, h2, h3, h4, h5, h6, h7, h8, h9⟩ := h k x hx
  exact ⟨b, off, Ac, cc, h1, h2, (hb.cell h2).trans h3, (hb.cell h2).trans h4, (hb.cell h2).trans h5, h6, h7, h8, h9.below hb⟩

theorem open_ops {H : Type} {enc : TypeId × Value → H} {P : Program} {t e tk ti ts : TypeId} {f0 f1 f2 : Field} (ht : P.underlying t = some (.slice e)) (he : P.underlying e = some (.struct #[f0, f1, f2]))
    (hone : oneCellFields P #[f0, f1, f2] = true) (hC : P.cellsOf e = 3)
    (t0 : f0.type = tk) (t1 : f1.type = ti) (t2 : f2.type = ts) (uk : P.underlying tk = some (.int .u8)) (ui : P.underlying ti = some (.int .i64)) (us : P.underlying ts = some (.slice tk)) (ck : P.cellsOf tk = 1)
    {W : World} {a : Option Addr} {len cap : Nat} {d : DataW H} {ps : List MemPlace} {sp : Nat → Bool} {hd : Bool} (h : DataW.Trod enc P W 0 sp hd t (.slice a len cap) d ps) :
    ∃ L : List Opn, L.length = len ∧ len ≤ cap ∧ cap ≤ maxLen ∧ Po W W.heap.size a L := by
  obtain ⟨fuel, hf⟩ := h
  rcases open_slice_fields ht he hone (hC.trans rfl) hf with hcs | ⟨x, l, c, m, hcs, hl, hm, hmm, hi⟩
  · simp [Value.cells] at hcs
    obtain ⟨rfl, rfl, rfl⟩ := hcs
    exact ⟨[], rfl, Nat.le_refl _, Nat.zero_le _, fun k x hx => by simp at hx⟩
  · simp [Value.cells] at hcs
    obtain ⟨rfl, rfl, rfl⟩ := hcs
    have hlm : len ≤ m := by rw [hmm]; split <;> omega
    have key : ∀ i, i < len → ∃ y : Opn, ∃ Ac cc, W.cell? (x.add (i * 3)) = some (.int .u8 (y.kind.toNat : Int)) ∧ W.cell? (x.add (i * 3 + 1)) = some (.int .i64 y.n) ∧ W.cell? (x.add (i * 3 + 2)) = some (.slice Ac y.b.length cc) ∧
        y.b.length ≤ cc ∧ cc ≤ maxLen ∧ (-9223372036854775808 ≤ y.n ∧ y.n ≤ 9223372036854775807) ∧ Bs W W.heap.size Ac y.b := by
      intro i hlt
      obtain ⟨n, hfld⟩ := hi i (by omega)
      obtain ⟨v0, y0, c0, r0⟩ := hfld 0 f0 rfl
      obtain ⟨v1, y1, c1, r1⟩ := hfld 1 f1 rfl
      obtain ⟨v2, y2, c2, r2⟩ := hfld 2 f2 rfl
      rw [t0] at r0
      rw [t1] at r1
      rw [t2] at r2
      obtain ⟨n0, e0, _, w0⟩ := DataW.trod_int uk r0
      obtain ⟨n1, e1, _, w1⟩ := DataW.trod_int ui r1
      obtain ⟨l2, a2, c2', e2, g1, g2, g3⟩ := open_bs0 us uk ck r2
      injection e0 with e0
      injection e1 with e1
      subst e0 e1 e2
      refine ⟨⟨UInt8.ofNat n0.toNat, n1, l2⟩, a2, c2', ?_, c1, c2, g1, g2, bounds_i64 w1, g3⟩
      rw [u8_back w0]
      exact c0
    obtain ⟨F, hF⟩ := choose_lt (α := Opn) (n := len) key
    refine ⟨(List.range len).map F, by simp, hl, hm, fun k y hy => ?_⟩
    have hlt : k < len := by
      have := (List.getElem?_eq_some_iff.1 hy).1
      simpa using this
    obtain rfl : F k = y := by simpa [hlt] using hy
    obtain ⟨Ac, cc, g0, g1, g2, g3, g4, g5, g6⟩ := hF k hlt
    have hc0 : ∃ v, W.cell? (x.add (0 * 3)) = some v := by obtain ⟨_, _, h, _⟩ := hF 0 (by omega); exact ⟨_, h⟩
    obtain ⟨v0, hc0⟩ := hc0
    obtain ⟨b, off, spot⟩ := x
    have hspot : spot = none := by simpa [Addr.add] using World.cell?_spot hc0
    subst hspot
    rw [Addr.add_lit] at g0 g1 g2
    refine ⟨b, off, Ac, cc, rfl, ?_, g0, g1, g2, g3, g4, g5, g6⟩
    exact World.block_lt_of_cell? W _ g0

/-- What is done; what is told. -/
def opDo (d : Dsk) (kind : Nat) (n : Int) (b : List UInt8) : Dsk × Int := match kind with
  | 0 => dAppend d b
  | 1 => dSync d
  | 2 => (dDoom d n, 0)
  | 3 => (dCrash d n, 0)
  | 4 => dUp d
  | 5 => dCut d n
  | _ => (d, 0)
end Go.Proofs.Ytcgkoojegopfnaa
