/- How an argument that is a node's state is opened. -/
import Derived.Test.YtcgkoojegopfnaaOpF
import Derived.Test.YtcgkoojegopfnaaStoS
import Derived.Lib.SmallJoins
namespace Go.Proofs.Ytcgkoojegopfnaa
open Go.ChangeShapes Go.WideShapes Go.ChangeAt Go.RowKit Go.Deep

/-- A slice of entries that reads as L: from what is known of each. -/
theorem En.of_cells {W : World} {F : Nat → Prop} {b off len : Nat} (hF : F b) (hb : 0 < len → b < W.heap.size) {G : Nat → Ent}
    (h : ∀ i, i < len → ∃ Ac cc, W.cell? ⟨b, off + i * 2, none⟩ = some (.int .i64 (G i).term) ∧ W.cell? ⟨b, off + i * 2 + 1, none⟩ = some (.slice Ac (G i).b.length cc) ∧ (G i).b.length ≤ cc ∧ cc ≤ maxLen ∧ BsF W F Ac (G i).b) :
    En W F (some ⟨b, off, none⟩) ((List.range len).map G) := by
  have hcell : ∀ j, j < len * 2 → ∃ v, W.cell? ⟨b, off + j, none⟩ = some v := fun j hj => by
    obtain ⟨Ac, cc, h1, h2, _⟩ := h (j / 2) (by omega)
    rcases Nat.mod_two_eq_zero_or_one j with hm | hm
    · refine ⟨.int .i64 (G (j / 2)).term, ?_⟩
      rw [show off + j = off + j / 2 * 2 by omega]
      exact h1
    · refine ⟨.slice Ac (G (j / 2)).b.length cc, ?_⟩
      rw [show off + j = off + j / 2 * 2 + 1 by omega]
      exact h2
  obtain ⟨V, hV⟩ := choose_lt (α := Value) (n := len * 2) hcell
  have hvs : ∀ j, j < len * 2 → ((List.range (len * 2)).map V)[j]? = some (V j) := fun j hj => by simp [hj]
  refine ⟨(List.range (len * 2)).map V, by simp, fun hl => ⟨b, off, rfl, hF, hb (by simp at hl; omega), fun j hj => ?_⟩, fun i x hx => ?_⟩
  · have hj' : j < len * 2 := by simpa using hj
    rw [hvs j hj']
    exact hV j hj'
  · have hlt : i < len := by
      have := (List.getElem?_eq_some_iff.1 hx).1
      simpa using this
    obtain rfl : G i = x := by simpa [hlt] using hx
    obtain ⟨Ac, cc, h1, h2, h3, h4, h5⟩ := h i hlt
    refine ⟨Ac, cc, ?_, ?_, h3, h4, h5⟩
    · rw [hvs (i * 2) (by omega), ← hV (i * 2) (by omega)]
      exact h1
    · rw [hvs (i * 2 + 1) (by omega), ← hV (i * 2 + 1) (by omega)]
      exact h2

theorem open_ents {H : Type} {enc : TypeId × Value → H} {P : Program} {t e ti ts tk : TypeId} {f0 f1 : Field} (ht : P.underlying t = some (.slice e)) (he : P.underlying e = some (.struct #[f0, f1]))
    (hone : oneCellFields P #[f0, f1] = true) (hC : P.cellsOf e = 2)
    (t0 : f0.type = ti) (t1 : f1.type = ts) (ui : P.underlying ti = some (.int .i64)) (us : P.underlying ts = some (.slice tk)) (uk : P.underlying tk = some (.int .u8)) (ck : P.cellsOf tk = 1)
    {W : World} {fuel : Nat} {cs : List Value} {x : DataW H × List MemPlace} {sp : Nat → Bool} {hd : Bool} (h : DataW.trod enc P W 0 sp hd fuel t cs = some x) :
    ∃ (a : Option Addr) (L : List Ent) (len cap : Nat), cs = [.slice a len cap] ∧ L.length = len ∧ len ≤ cap ∧ cap ≤ maxLen ∧ En W (fun b => b < W.heap.size) a L := by
  rcases open_slice_fields ht he hone (hC.trans rfl) h with hcs | ⟨y, l, c, m, hcs, hl, hm, hmm, hi⟩
  · exact ⟨none, [], 0, 0, hcs, rfl, Nat.le_refl _, Nat.zero_le _, En.nil⟩
  · have hlm : l ≤ m := by rw [hmm]; split <;> omega
    have key : ∀ i, i < l → ∃ z : Ent, ∃ Ac cc, W.cell? (y.add (i * 2)) = some (.int .i64 z.term) ∧ W.cell? (y.add (i * 2 + 1)) = some (.slice Ac z.b.length cc) ∧
        z.b.length ≤ cc ∧ cc ≤ maxLen ∧ Bs W W.heap.size Ac z.b := by
      intro i hlt
      obtain ⟨n, hfld⟩ := hi i (by omega)
      obtain ⟨v0, y0, c0, r0⟩ := hfld 0 f0 rfl
      obtain ⟨v1, y1, c1, r1⟩ := hfld 1 f1 rfl
      rw [t0] at r0
      rw [t1] at r1
      obtain ⟨n0, e0, _, w0⟩ := DataW.trod_int ui r0
      obtain ⟨l2, a2, c2', e2, g1, g2, g3⟩ := open_bs0 us uk ck r1
      injection e0 with e0
      subst e0 e2
      exact ⟨⟨n0, l2⟩, a2, c2', c0, c1, g1, g2, g3⟩
    obtain ⟨G, hG⟩ := choose_lt (α := Ent) (n := l) key
    rcases Nat.eq_zero_or_pos l with rfl | hpos
    · exact ⟨some y, [], 0, c, hcs, rfl, Nat.zero_le _, hm, En.nil⟩
    · have hc0 : ∃ v, W.cell? (y.add (0 * 2)) = some v := by obtain ⟨_, _, h, _⟩ := hG 0 hpos; exact ⟨_, h⟩
      obtain ⟨v0, hc0⟩ := hc0
      obtain ⟨b, off, spot⟩ := y
      have hspot : spot = none := by simpa [Addr.add] using World.cell?_spot hc0
      subst hspot
      have hb : b < W.heap.size := World.block_lt_of_cell? W _ hc0
      refine ⟨some ⟨b, off, none⟩, (List.range l).map G, l, c, hcs, by simp, hl, hm, En.of_cells (F := fun b => b < W.heap.size) hb (fun _ => hb) fun i hlt => ?_⟩
      obtain ⟨Ac, cc, g0, g1, g2, g3, g4⟩ := hG i hlt
      rw [Addr.add_lit] at g0 g1
      exact ⟨Ac, cc, g0, g1, g2, g3, (BsF.of_bs g4 (Nat.le_refl _)).mono fun _ h _ => h⟩

theorem open_stb {H : Type} {enc : TypeId × Value → H} {P : Program} {r : Reach} {b0 : Nat} {t ti te e ts tk : TypeId} {f0 f1 f2 f3 e0 e1 : Field} (ht : P.underlying t = some (.struct #[f0, f1, f2, f3])) (hone : oneCellFields P #[f0, f1, f2, f3] = true) (hC : P.cellsOf t = 4)
    (t0 : f0.type = ti) (t1 : f1.type = ti) (t2 : f2.type = ti) (t3 : f3.type = te) (ui : P.underlying ti = some (.int .i64)) (ue : P.underlying te = some (.slice e)) (he : P.underlying e = some (.struct #[e0, e1]))
    (hone' : oneCellFields P #[e0, e1] = true) (hC' : P.cellsOf e = 2) (u0 : e0.type = ti) (u1 : e1.type = ts) (us : P.underlying ts = some (.slice tk)) (uk : P.underlying tk = some (.int .u8)) (ck : P.cellsOf tk = 1)
    {W : World} {v : Value} {d : DataW H} {ps : List MemPlace} {sp : Nat → Bool} {hd : Bool} (hv : Value.okWide P W r b0 t v) (h : DataW.Trod enc P W 0 sp hd t v d ps) :
    ∃ (s : Stb) (A : Option Addr) (n c : Nat), v = .agg #[.int .i64 s.floor, .int .i64 s.term, .int .i64 s.vote, .slice A n c] ∧ StF W (fun b => b < W.heap.size) s A n c := by
  obtain ⟨v0, v1, v2, v3, y0, y1, y2, y3, n, rfl, _, _, h0, h1, h2, h3⟩ := Go.Joins.open_agg4 ht hone hC hv h
  rw [t0] at h0
  rw [t1] at h1
  rw [t2] at h2
  rw [t3] at h3
  obtain ⟨n0, e0', _, w0⟩ := DataW.trod_int ui h0
  obtain ⟨n1, e1', _, w1⟩ := DataW.trod_int ui h1
  obtain ⟨n2, e2', _, w2⟩ := DataW.trod_int ui h2
  obtain ⟨a, L, len, cap, hcs, g1, g2, g3, g4⟩ := open_ents ue he hone' hC' u0 u1 ui us uk ck h3
  injection e0' with e0'
  injection e1' with e1'
  injection e2' with e2'
  injection hcs with hcs
  subst e0' e1' e2' hcs
  exact ⟨⟨n0, n1, n2, L⟩, a, len, cap, rfl, g1, g2, g3, g4⟩
end Go.Proofs.Ytcgkoojegopfnaa
