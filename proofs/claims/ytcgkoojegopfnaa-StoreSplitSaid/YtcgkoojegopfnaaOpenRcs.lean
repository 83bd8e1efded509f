/- How an argument that is a slice of records, or of slices of records, is opened. -/
import Derived.Test.YtcgkoojegopfnaaOpF
import Derived.Test.YtcgkoojegopfnaaRcs
import Derived.Test.YtcgkoojegopfnaaOpenStb
namespace Go.Proofs.Ytcgkoojegopfnaa
open Go.ChangeShapes Go.WideShapes Go.ChangeAt Go.RowKit Go.Deep

instance : Inhabited Rcd := ⟨⟨0, 0, 0, []⟩⟩

/-- A slice of records that reads as L: from what is known of each. -/
theorem Rc.of_cells {W : World} {F : Nat → Prop} {b off len : Nat} (hF : F b) (hb : 0 < len → b < W.heap.size) {G : Nat → Rcd}
    (h : ∀ i, i < len → ∃ Ac cc, W.cell? ⟨b, off + i * 4, none⟩ = some (.int .i64 (G i).kind) ∧ W.cell? ⟨b, off + i * 4 + 1, none⟩ = some (.int .i64 (G i).a) ∧ W.cell? ⟨b, off + i * 4 + 2, none⟩ = some (.int .i64 (G i).b) ∧ W.cell? ⟨b, off + i * 4 + 3, none⟩ = some (.slice Ac (G i).x.length cc) ∧
      (G i).x.length ≤ cc ∧ cc ≤ maxLen ∧ BsF W F Ac (G i).x ∧ bd64 (G i).kind ∧ bd64 (G i).a ∧ bd64 (G i).b) :
    Rc W F (some ⟨b, off, none⟩) ((List.range len).map G) := by
  have hcell : ∀ j, j < len * 4 → ∃ v, W.cell? ⟨b, off + j, none⟩ = some v := fun j hj => by
    obtain ⟨Ac, cc, h0, h1, h2, h3, _⟩ := h (j / 4) (by omega)
    have hm : j % 4 = 0 ∨ j % 4 = 1 ∨ j % 4 = 2 ∨ j % 4 = 3 := by omega
    rcases hm with hm | hm | hm | hm
    · exact ⟨_, by rw [show off + j = off + j / 4 * 4 by omega]; exact h0⟩
    · exact ⟨_, by rw [show off + j = off + j / 4 * 4 + 1 by omega]; exact h1⟩
    · exact ⟨_, by rw [show off + j = off + j / 4 * 4 + 2 by omega]; exact h2⟩
    · exact ⟨_, by rw [show off + j = off + j / 4 * 4 + 3 by omega]; exact h3⟩
  obtain ⟨V, hV⟩ := choose_lt (α := Value) (n := len * 4) hcell
  have hvs : ∀ j, j < len * 4 → ((List.range (len * 4)).map V)[j]? = some (V j) := fun j hj => by simp [hj]
  refine ⟨(List.range (len * 4)).map V, by simp, fun hl => ⟨b, off, rfl, hF, hb (by simp at hl; omega), fun j hj => ?_⟩, fun i x hx => ?_⟩
  · have hj' : j < len * 4 := by simpa using hj
    rw [hvs j hj']
    exact hV j hj'
  · have hlt : i < len := by
      have := (List.getElem?_eq_some_iff.1 hx).1
      simpa using this
    obtain rfl : G i = x := by simpa [hlt] using hx
    obtain ⟨Ac, cc, h0, h1, h2, h3, h4⟩ := h i hlt
    refine ⟨Ac, cc, ?_, ?_, ?_, ?_, h4⟩
    · rw [hvs (i * 4) (by omega), ← hV (i * 4) (by omega)]
      exact h0
    · rw [hvs (i * 4 + 1) (by omega), ← hV (i * 4 + 1) (by omega)]
      exact h1
    · rw [hvs (i * 4 + 2) (by omega), ← hV (i * 4 + 2) (by omega)]
      exact h2
    · rw [hvs (i * 4 + 3) (by omega), ← hV (i * 4 + 3) (by omega)]
      exact h3

theorem open_rcs0 {H : Type} {enc : TypeId × Value → H} {P : Program} {t e ti ts tk : TypeId} {f0 f1 f2 f3 : Field} (ht : P.underlying t = some (.slice e)) (he : P.underlying e = some (.struct #[f0, f1, f2, f3]))
    (hone : oneCellFields P #[f0, f1, f2, f3] = true) (hC : P.cellsOf e = 4)
    (t0 : f0.type = ti) (t1 : f1.type = ti) (t2 : f2.type = ti) (t3 : f3.type = ts) (ui : P.underlying ti = some (.int .i64)) (us : P.underlying ts = some (.slice tk)) (uk : P.underlying tk = some (.int .u8)) (ck : P.cellsOf tk = 1)
    {W : World} {fuel : Nat} {cs : List Value} {x : DataW H × List MemPlace} {sp : Nat → Bool} {hd : Bool} (h : DataW.trod enc P W 0 sp hd fuel t cs = some x) :
    ∃ (a : Option Addr) (L : List Rcd) (len cap : Nat), cs = [.slice a len cap] ∧ L.length = len ∧ len ≤ cap ∧ cap ≤ maxLen ∧ Rc W (fun b => b < W.heap.size) a L := by
  rcases open_slice_fields ht he hone (hC.trans rfl) h with hcs | ⟨y, l, c, m, hcs, hl, hm, hmm, hi⟩
  · exact ⟨none, [], 0, 0, hcs, rfl, Nat.le_refl _, Nat.zero_le _, Rc.nil⟩
  · have hlm : l ≤ m := by rw [hmm]; split <;> omega
    have key : ∀ i, i < l → ∃ z : Rcd, ∃ Ac cc, W.cell? (y.add (i * 4)) = some (.int .i64 z.kind) ∧ W.cell? (y.add (i * 4 + 1)) = some (.int .i64 z.a) ∧ W.cell? (y.add (i * 4 + 2)) = some (.int .i64 z.b) ∧ W.cell? (y.add (i * 4 + 3)) = some (.slice Ac z.x.length cc) ∧
        z.x.length ≤ cc ∧ cc ≤ maxLen ∧ Bs W W.heap.size Ac z.x ∧ bd64 z.kind ∧ bd64 z.a ∧ bd64 z.b := by
      intro i hlt
      obtain ⟨n, hfld⟩ := hi i (by omega)
      obtain ⟨v0, y0, c0, r0⟩ := hfld 0 f0 rfl
      obtain ⟨v1, y1, c1, r1⟩ := hfld 1 f1 rfl
      obtain ⟨v2, y2, c2, r2⟩ := hfld 2 f2 rfl
      obtain ⟨v3, y3, c3, r3⟩ := hfld 3 f3 rfl
      rw [t0] at r0
      rw [t1] at r1
      rw [t2] at r2
      rw [t3] at r3
      obtain ⟨n0, e0, _, w0⟩ := DataW.trod_int ui r0
      obtain ⟨n1, e1, _, w1⟩ := DataW.trod_int ui r1
      obtain ⟨n2, e2, _, w2⟩ := DataW.trod_int ui r2
      obtain ⟨l2, a2, c2', e3, g1, g2, g3⟩ := open_bs0 us uk ck r3
      injection e0 with e0
      injection e1 with e1
      injection e2 with e2
      subst e0 e1 e2 e3
      exact ⟨⟨n0, n1, n2, l2⟩, a2, c2', c0, c1, c2, c3, g1, g2, g3, bounds_i64 w0, bounds_i64 w1, bounds_i64 w2⟩
    obtain ⟨G, hG⟩ := choose_lt (α := Rcd) (n := l) key
    rcases Nat.eq_zero_or_pos l with rfl | hpos
    · exact ⟨some y, [], 0, c, hcs, rfl, Nat.zero_le _, hm, Rc.nil⟩
    · have hc0 : ∃ v, W.cell? (y.add (0 * 4)) = some v := by obtain ⟨_, _, h, _⟩ := hG 0 hpos; exact ⟨_, h⟩
      obtain ⟨v0, hc0⟩ := hc0
      obtain ⟨b, off, spot⟩ := y
      have hspot : spot = none := by simpa [Addr.add] using World.cell?_spot hc0
      subst hspot
      have hb : b < W.heap.size := World.block_lt_of_cell? W _ hc0
      refine ⟨some ⟨b, off, none⟩, (List.range l).map G, l, c, hcs, by simp, hl, hm, Rc.of_cells (F := fun b => b < W.heap.size) hb (fun _ => hb) fun i hlt => ?_⟩
      obtain ⟨Ac, cc, g0, g1, g2, g3, g4, g5, g6, g7⟩ := hG i hlt
      rw [Addr.add_lit] at g0 g1 g2 g3
      exact ⟨Ac, cc, g0, g1, g2, g3, g4, g5, (BsF.of_bs g6 (Nat.le_refl _)).mono fun _ h _ => h, g7⟩

theorem open_rcs {H : Type} {enc : TypeId × Value → H} {P : Program} {t e ti ts tk : TypeId} {f0 f1 f2 f3 : Field} (ht : P.underlying t = some (.slice e)) (he : P.underlying e = some (.struct #[f0, f1, f2, f3]))
    (hone : oneCellFields P #[f0, f1, f2, f3] = true) (hC : P.cellsOf e = 4)
    (t0 : f0.type = ti) (t1 : f1.type = ti) (t2 : f2.type = ti) (t3 : f3.type = ts) (ui : P.underlying ti = some (.int .i64)) (us : P.underlying ts = some (.slice tk)) (uk : P.underlying tk = some (.int .u8)) (ck : P.cellsOf tk = 1)
    {W : World} {a : Option Addr} {len cap : Nat} {d : DataW H} {ps : List MemPlace} {sp : Nat → Bool} {hd : Bool} (h : DataW.Trod enc P W 0 sp hd t (.slice a len cap) d ps) :
    ∃ L : List Rcd, L.length = len ∧ len ≤ cap ∧ cap ≤ maxLen ∧ Rc W (fun b => b < W.heap.size) a L := by
  obtain ⟨fuel, hf⟩ := h
  obtain ⟨a', L, len', cap', hcs, h1, h2, h3, h4⟩ := open_rcs0 ht he hone hC t0 t1 t2 t3 ui us uk ck hf
  simp [Value.cells] at hcs
  obtain ⟨rfl, rfl, rfl⟩ := hcs
  exact ⟨L, h1, h2, h3, h4⟩

/-- Rows of records, in a row, in blocks below B. -/
def Rcc (w : World) (B : Nat) (A : Option Addr) (LL : List (List Rcd)) : Prop :=
  ∀ i L, LL[i]? = some L → ∃ b off Ai ci, A = some ⟨b, off, none⟩ ∧ b < B ∧ w.cell? ⟨b, off + i, none⟩ = some (.slice Ai L.length ci) ∧ L.length ≤ ci ∧ ci ≤ maxLen ∧ Rc w (fun b => b < B) Ai L
theorem Rcc.below {w w' : World} {B : Nat} {A : Option Addr} {LL : List (List Rcd)} (h : Rcc w B A LL) (hb : Below B w w') : Rcc w' B A LL := fun i L hx => by
  obtain ⟨b, off, Ai, ci, rfl, h1, h2, h3, h4, h5⟩ := h i L hx
  exact ⟨b, off, Ai, ci, rfl, h1, (World.cell?_of_block (a := ⟨b, off + i, none⟩) (hb.block b h1)).trans h2, h3, h4, h5.keep hb.size fun b hf _ => hb.block b hf⟩

theorem open_rcss {H : Type} {enc : TypeId × Value → H} {P : Program} {t r e ti ts tk : TypeId} {f0 f1 f2 f3 : Field} (ht : P.underlying t = some (.slice r)) (hcr : P.cellsOf r = 1) (hr : P.underlying r = some (.slice e)) (he : P.underlying e = some (.struct #[f0, f1, f2, f3]))
    (hone : oneCellFields P #[f0, f1, f2, f3] = true) (hC : P.cellsOf e = 4)
    (t0 : f0.type = ti) (t1 : f1.type = ti) (t2 : f2.type = ti) (t3 : f3.type = ts) (ui : P.underlying ti = some (.int .i64)) (us : P.underlying ts = some (.slice tk)) (uk : P.underlying tk = some (.int .u8)) (ck : P.cellsOf tk = 1)
    {W : World} {a : Option Addr} {len cap : Nat} {d : DataW H} {ps : List MemPlace} {sp : Nat → Bool} {hd : Bool} (h : DataW.Trod enc P W 0 sp hd t (.slice a len cap) d ps) :
    ∃ LL : List (List Rcd), LL.length = len ∧ len ≤ cap ∧ cap ≤ maxLen ∧ Rcc W W.heap.size a LL := by
  obtain ⟨fuel, hf⟩ := h
  rcases open_slice1 ht hcr hf with ⟨hcs, _⟩ | ⟨x, l, c, m, n, V, D, Pl, hcs, _, hl, hm, hmm, _, hi⟩
  · simp [Value.cells] at hcs
    obtain ⟨rfl, rfl, rfl⟩ := hcs
    exact ⟨[], rfl, Nat.le_refl _, Nat.zero_le _, fun i L h => by simp at h⟩
  · simp [Value.cells] at hcs
    obtain ⟨rfl, rfl, rfl⟩ := hcs
    have hlm : len ≤ m := by rw [hmm]; split <;> omega
    obtain ⟨F, hF⟩ := choose_lt (α := List Rcd) (n := len) (p := fun i L => ∃ a cap, V i = .slice a L.length cap ∧ L.length ≤ cap ∧ cap ≤ maxLen ∧ Rc W (fun b => b < W.heap.size) a L) (fun i hlt => by
      obtain ⟨a', L, len', cap', hcs, h1, h2, h3, h4⟩ := open_rcs0 hr he hone hC t0 t1 t2 t3 ui us uk ck (hi i (by omega)).2
      injection hcs with hcs
      subst h1
      exact ⟨L, a', cap', hcs, h2, h3, h4⟩)
    refine ⟨(List.range len).map F, by simp, hl, hm, fun i L hL => ?_⟩
    have hlt : i < len := by
      have := (List.getElem?_eq_some_iff.1 hL).1
      simpa using this
    obtain rfl : F i = L := by simpa [hlt] using hL
    have hc0 := (hi i (by omega)).1
    have hc1 := (hi 0 (by omega)).1
    obtain ⟨b, off, spot⟩ := x
    have hspot : spot = none := by simpa [Addr.add] using World.cell?_spot hc1
    subst hspot
    obtain ⟨Ai, ci, h1, h2, h3, h4⟩ := hF i hlt
    rw [Addr.add_lit, h1] at hc0
    exact ⟨b, off, Ai, ci, rfl, World.block_lt_of_cell? W _ hc0, hc0, h2, h3, h4⟩
end Go.Proofs.Ytcgkoojegopfnaa
