/- How an argument that is a slice of ints, or of snapshots, is opened. -/
import Derived.Test.YtaaibgbblehngaaSnap
namespace Go.Proofs.Ytaaibgbblehngaa
open Go.ChangeShapes Go.WideShapes Go.ChangeAt Go.RowKit Go.Deep

section
variable {H : Type} {enc : TypeId × Value → H} {P : Program} {w : World} {base : Nat} {spare : Nat → Bool} {held : Bool}
theorem open_slice_fields {t e : TypeId} {fs : Array Field} {fuel : Nat} {cs : List Value} {x : DataW H × List MemPlace} (ht : P.underlying t = some (.slice e)) (he : P.underlying e = some (.struct fs))
    (hone : oneCellFields P fs = true) (hC : P.cellsOf e = fs.size) (h : DataW.trod enc P w base spare held fuel t cs = some x) :
    cs = [.slice none 0 0] ∨
    ∃ (a : Addr) (len cap m : Nat), cs = [.slice (some a) len cap] ∧ len ≤ cap ∧ cap ≤ maxLen ∧ m = (if spare a.block then cap else len) ∧
      ∀ i, i < m → ∃ n : Nat, ∀ (j : Nat) (f : Field), fs[j]? = some f → ∃ (v : Value) (y : DataW H × List MemPlace), w.cell? (a.add (i * fs.size + j)) = some v ∧ DataW.trod enc P w base spare held n f.type [v] = some y := by
  rcases open_slice ht h with h0 | ⟨a, len, cap, m, n, D, Pl, hcs, hb, hl, hm, hmm, hx, hi⟩
  · exact .inl h0.1
  · refine .inr ⟨a, len, cap, m, hcs, hl, hm, hmm, fun i him => ?_⟩
    obtain ⟨cs', hc, ht'⟩ := hi i him
    rw [hC] at hc
    obtain ⟨ys, n', hn', hy, hlen, hyl, hf⟩ := DataW.trod_struct he ht'
    obtain ⟨_, hcl, hat⟩ := World.cells?_some hc
    refine ⟨n', fun j f hj => ?_⟩
    obtain ⟨ho, hk⟩ := hone_of hone j f hj
    have hjl : j < fs.size := (Array.getElem?_eq_some_iff.1 hj).1
    have hcell := hat j hjl
    have hv : cs'[j]? = some (cs'[j]'(by omega)) := List.getElem?_eq_getElem (by omega)
    have h1 := hf j f hj
    rw [ho, hk] at h1
    have hone' : (cs'.drop j).take 1 = [cs'[j]'(by omega)] := by
      rw [List.drop_eq_getElem_cons (by omega)]
      rfl
    rw [hone'] at h1
    have hys : ys[j]? = some (ys[j]'(by omega)) := List.getElem?_eq_getElem (by omega)
    refine ⟨_, _, ?_, h1.trans hys⟩
    rw [← Go.Deep.add_add, hcell, hv]
end

theorem open_is0 {H : Type} {enc : TypeId × Value → H} {P : Program} {t e : TypeId} (ht : P.underlying t = some (.slice e)) (he : P.underlying e = some (.int .i64)) (hc : P.cellsOf e = 1)
    {W : World} {sp : Nat → Bool} {hd : Bool} {fuel : Nat} {v : Value} {x : DataW H × List MemPlace} (h : DataW.trod enc P W 0 sp hd fuel t [v] = some x) :
    ∃ l : List Int, ∃ a cap, v = .slice a l.length cap ∧ l.length ≤ cap ∧ cap ≤ maxLen ∧ Is W W.heap.size a l := by
  rcases open_ints ht he hc h with ⟨hcs, _⟩ | ⟨y, len, c, zs, hcs, _, hl, hm, hz, _, hcell, _⟩
  · injection hcs with hcs
    subst hcs
    exact ⟨[], none, 0, rfl, Nat.le_refl _, Nat.zero_le _, Rd.nil⟩
  · injection hcs with hcs
    subst hcs
    have hlz : len ≤ zs.length := by rw [hz]; split <;> omega
    have hlen : (zs.take len).length = len := by rw [List.length_take]; omega
    refine ⟨zs.take len, some y, c, by rw [hlen], by omega, hm, fun hpos => ?_⟩
    have hpos' : 0 < len := by simp at hpos; omega
    have hc0 := hcell 0 (by omega)
    obtain ⟨b, off, spot⟩ := y
    have hspot : spot = none := by simpa [Addr.add] using World.cell?_spot hc0
    subst hspot
    refine ⟨b, off, rfl, ?_, fun i hi => ?_⟩
    · have := World.block_lt_of_cell? W _ hc0
      simpa [Addr.add] using this
    · have hi' : i < len := by simp at hi; omega
      have hci := hcell i (by omega)
      rw [Addr.add_lit] at hci
      rw [hci]
      simp [hi', show i < zs.length by omega, iv]

theorem open_is {H : Type} {enc : TypeId × Value → H} {P : Program} {t e : TypeId} (ht : P.underlying t = some (.slice e)) (he : P.underlying e = some (.int .i64)) (hc : P.cellsOf e = 1)
    {W : World} {a : Option Addr} {len cap : Nat} {d : DataW H} {ps : List MemPlace} {sp : Nat → Bool} {hd : Bool} (h : DataW.Trod enc P W 0 sp hd t (.slice a len cap) d ps) :
    ∃ l : List Int, l.length = len ∧ len ≤ cap ∧ cap ≤ maxLen ∧ Is W W.heap.size a l := by
  obtain ⟨fuel, hf⟩ := h
  obtain ⟨l, a', cap', he', h1, h2, h3⟩ := open_is0 ht he hc (v := .slice a len cap) (by simpa [Value.cells] using hf)
  injection he' with e1 e2 e3
  subst e1 e2 e3
  exact ⟨l, rfl, h1, h2, h3⟩

instance : Inhabited Snp := ⟨⟨0, 0, [], false, ⟨#[]⟩⟩⟩

/-- The r-th cell of a snapshot. -/
def snpCell (x : Snp) (q : Option Addr × Nat) : Nat → Value
  | 0 => iv x.id
  | 1 => iv x.set
  | 2 => .slice q.1 x.chunks.length q.2
  | 3 => .bool x.held
  | _ => .string x.tag

/-- A slice of snapshots. -/
theorem open_snaps {H : Type} {enc : TypeId × Value → H} {P : Program} {t e ti ts tb tg : TypeId} {f0 f1 f2 f3 f4 : Field} (ht : P.underlying t = some (.slice e)) (he : P.underlying e = some (.struct #[f0, f1, f2, f3, f4]))
    (hone : oneCellFields P #[f0, f1, f2, f3, f4] = true) (hC : P.cellsOf e = 5)
    (t0 : f0.type = ti) (t1 : f1.type = ti) (t2 : f2.type = ts) (t3 : f3.type = tb) (t4 : f4.type = tg) (ui : P.underlying ti = some (.int .i64)) (us : P.underlying ts = some (.slice ti)) (ub : P.underlying tb = some .bool) (ug : P.underlying tg = some .string) (ci : P.cellsOf ti = 1)
    {W : World} {a : Option Addr} {len cap : Nat} {d : DataW H} {ps : List MemPlace} {sp : Nat → Bool} {hd : Bool} (h : DataW.Trod enc P W 0 sp hd t (.slice a len cap) d ps) :
    ∃ L : List Snp, L.length = len ∧ len ≤ cap ∧ cap ≤ maxLen ∧ Sn W W.heap.size a L := by
  obtain ⟨fuel, hf⟩ := h
  rcases open_slice_fields ht he hone (hC.trans rfl) hf with hcs | ⟨x, l, c, m, hcs, hl, hm, hmm, hi⟩
  · simp [Value.cells] at hcs
    obtain ⟨rfl, rfl, rfl⟩ := hcs
    exact ⟨[], rfl, Nat.le_refl _, Nat.zero_le _, Sn.nil⟩
  · simp [Value.cells] at hcs
    obtain ⟨rfl, rfl, rfl⟩ := hcs
    have hlm : len ≤ m := by rw [hmm]; split <;> omega
    have key : ∀ i, i < len → ∃ y : Snp, ∃ Ac cc, W.cell? (x.add (i * 5)) = some (iv y.id) ∧ W.cell? (x.add (i * 5 + 1)) = some (iv y.set) ∧ W.cell? (x.add (i * 5 + 2)) = some (.slice Ac y.chunks.length cc) ∧ W.cell? (x.add (i * 5 + 3)) = some (.bool y.held) ∧ W.cell? (x.add (i * 5 + 4)) = some (.string y.tag) ∧
        y.chunks.length ≤ cc ∧ cc ≤ maxLen ∧ Is W W.heap.size Ac y.chunks := by
      intro i hlt
      obtain ⟨n, hfld⟩ := hi i (by omega)
      obtain ⟨v0, y0, c0, r0⟩ := hfld 0 f0 rfl
      obtain ⟨v1, y1, c1, r1⟩ := hfld 1 f1 rfl
      obtain ⟨v2, y2, c2, r2⟩ := hfld 2 f2 rfl
      obtain ⟨v3, y3, c3, r3⟩ := hfld 3 f3 rfl
      obtain ⟨v4, y4, c4, r4⟩ := hfld 4 f4 rfl
      rw [t0] at r0
      rw [t1] at r1
      rw [t2] at r2
      rw [t3] at r3
      rw [t4] at r4
      obtain ⟨n0, e0, _⟩ := DataW.trod_int ui r0
      obtain ⟨n1, e1, _⟩ := DataW.trod_int ui r1
      obtain ⟨l2, a2, c2', e2, g1, g2, g3⟩ := open_is0 us ui ci r2
      obtain ⟨b3, e3, _⟩ := DataW.trod_bool ub r3
      obtain ⟨s4, e4, _⟩ := DataW.trod_string ug r4
      injection e0 with e0
      injection e1 with e1
      injection e3 with e3
      injection e4 with e4
      subst e0 e1 e2 e3 e4
      exact ⟨⟨n0, n1, l2, b3, s4⟩, a2, c2', c0, c1, c2, c3, c4, g1, g2, g3⟩
    obtain ⟨F, hF⟩ := choose_lt (α := Snp) (n := len) key
    obtain ⟨G, hG⟩ := choose_lt (α := Option Addr × Nat) (n := len) (p := fun i q => W.cell? (x.add (i * 5)) = some (iv (F i).id) ∧ W.cell? (x.add (i * 5 + 1)) = some (iv (F i).set) ∧ W.cell? (x.add (i * 5 + 2)) = some (.slice q.1 (F i).chunks.length q.2) ∧ W.cell? (x.add (i * 5 + 3)) = some (.bool (F i).held) ∧ W.cell? (x.add (i * 5 + 4)) = some (.string (F i).tag) ∧
        (F i).chunks.length ≤ q.2 ∧ q.2 ≤ maxLen ∧ Is W W.heap.size q.1 (F i).chunks) (fun i hlt => by obtain ⟨Ac, cc, h⟩ := hF i hlt; exact ⟨(Ac, cc), h⟩)
    have hat : ∀ i r, i < len → r < 5 → W.cell? (x.add (i * 5 + r)) = some (snpCell (F i) (G i) r) := by
      intro i r hlt hr
      obtain ⟨g0, g1, g2, g3, g4, _⟩ := hG i hlt
      match r, hr with
      | 0, _ => exact g0
      | 1, _ => exact g1
      | 2, _ => exact g2
      | 3, _ => exact g3
      | 4, _ => exact g4
    obtain ⟨vs, hvs⟩ : ∃ vs : List Value, vs = (List.range (len * 5)).map (fun j => snpCell (F (j / 5)) (G (j / 5)) (j % 5)) := ⟨_, rfl⟩
    have hvl : vs.length = len * 5 := by rw [hvs]; simp
    have hvj : ∀ j, j < len * 5 → vs[j]? = some (snpCell (F (j / 5)) (G (j / 5)) (j % 5)) := fun j hj => by rw [hvs]; simp [hj]
    have hvr : ∀ i r, i < len → r < 5 → vs[i * 5 + r]? = some (snpCell (F i) (G i) r) := fun i r hlt hr => by
      rw [hvj _ (by omega), show (i * 5 + r) / 5 = i by omega, show (i * 5 + r) % 5 = r by omega]
    clear hvs
    refine ⟨(List.range len).map F, by simp, hl, hm, vs, by simp [hvl], ?_, ?_⟩
    · intro hpos
      have hpos' : 0 < len := by omega
      have hc0 := (hG 0 hpos').1
      obtain ⟨b, off, spot⟩ := x
      have hspot : spot = none := by simpa [Addr.add] using World.cell?_spot hc0
      subst hspot
      refine ⟨b, off, rfl, ?_, fun j hlt => ?_⟩
      · have := World.block_lt_of_cell? W _ hc0
        simpa [Addr.add] using this
      · have h1 := hat (j / 5) (j % 5) (by omega) (by omega)
        rw [show j / 5 * 5 + j % 5 = j by omega, Addr.add_lit] at h1
        rw [h1, hvj j (by omega)]
    · intro i y hy
      have hlt : i < len := by
        have := (List.getElem?_eq_some_iff.1 hy).1
        simpa using this
      obtain rfl : F i = y := by simpa [hlt] using hy
      obtain ⟨_, _, _, _, _, g5, g6, g7⟩ := hG i hlt
      exact ⟨(G i).1, (G i).2, hvr i 0 hlt (by omega), hvr i 1 hlt (by omega), hvr i 2 hlt (by omega), hvr i 3 hlt (by omega), hvr i 4 hlt (by omega), g5, g6, g7⟩

end Go.Proofs.Ytaaibgbblehngaa
