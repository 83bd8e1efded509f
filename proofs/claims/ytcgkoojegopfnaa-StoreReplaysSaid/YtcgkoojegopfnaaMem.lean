/- Slices that read as cells, over any world: nil and empty ones let in; rows of the call's own; append. -/
import Derived.Test.YtcgkoojegopfnaaOv
namespace Go.Proofs.Ytcgkoojegopfnaa
open Go.RowKit

/-- The slice's address A leads to the cells vs, in a block below B. -/
def Rd (w : World) (B : Nat) (A : Option Addr) (vs : List Value) : Prop :=
  0 < vs.length → ∃ b off, A = some ⟨b, off, none⟩ ∧ b < B ∧ ∀ i, i < vs.length → w.cell? ⟨b, off + i, none⟩ = vs[i]?

section
variable {w w' : World} {B B' : Nat} {A : Option Addr} {vs : List Value}
theorem Rd.nil : Rd w B A [] := fun h => absurd h (by simp)
theorem Rd.keep (h : Rd w B A vs) (hk : ∀ p : Addr, p.block < B → w'.cell? p = w.cell? p) : Rd w' B A vs := fun hl => by
  obtain ⟨b, off, rfl, hb, hc⟩ := h hl
  exact ⟨b, off, rfl, hb, fun i hi => (hk _ hb).trans (hc i hi)⟩
theorem Rd.more (h : Rd w B A vs) (hB : B ≤ B') : Rd w B' A vs := fun hl => by
  obtain ⟨b, off, rfl, hb, hc⟩ := h hl
  exact ⟨b, off, rfl, by omega, hc⟩
theorem Rd.below (h : Rd w B A vs) (hb : Below B w w') : Rd w' B A vs := h.keep fun _ hp => hb.cell hp
theorem Rd.step (h : Rd w w.heap.size A vs) (hb : Below w.heap.size w w') : Rd w' w'.heap.size A vs := (h.below hb).more hb.size
theorem Rd.drewN (h : Rd w B A vs) (k : Nat) : Rd (w.drewN k) B A vs := h.keep fun _ _ => rfl
theorem Rd.take (h : Rd w B A vs) (n : Nat) : Rd w B A (vs.take n) := fun hl => by
  obtain ⟨b, off, rfl, hb, hc⟩ := h (by simp at hl; omega)
  refine ⟨b, off, rfl, hb, fun i hi => ?_⟩
  have hi' : i < n ∧ i < vs.length := by simp at hi; omega
  rw [hc i hi'.2, List.getElem?_take, if_pos hi'.1]
theorem Rd.drop {b off : Nat} (h : Rd w B (some ⟨b, off, none⟩) vs) (n : Nat) : Rd w B (some ⟨b, off + n, none⟩) (vs.drop n) := fun hl => by
  obtain ⟨b', off', he, hb, hc⟩ := h (by simp at hl; omega)
  injection he with he
  injection he with h1 h2
  subst h1 h2
  refine ⟨b, off + n, rfl, hb, fun i hi => ?_⟩
  have hi' : n + i < vs.length := by simp at hi; omega
  rw [Nat.add_assoc, hc (n + i) hi', List.getElem?_drop]
/-- A new block whose cells are vs (and perhaps more). -/
theorem Rd.new {C : Array Value} {t : TypeId} {fr : Nat × Nat} (hB : w.heap.size < B) (h : C.toList.take vs.length = vs) : Rd (w.alloc (.cells C t fr)) B (some ⟨w.heap.size, 0, none⟩) vs :=
  fun _ => ⟨w.heap.size, 0, rfl, hB, fun i hi => by
    rw [World.cell?_alloc_mark, Nat.zero_add]
    have h2 : (C.toList.take vs.length)[i]? = vs[i]? := by rw [h]
    rw [List.getElem?_take, if_pos hi] at h2
    simpa using h2⟩
theorem Rd.of_blk {g : Nat} {t : TypeId} {cs : Array Value} (h : Blk w g t cs) : Rd w w.heap.size (some ⟨g, 0, none⟩) cs.toList := fun _ =>
  ⟨g, 0, rfl, h.lt, fun i _ => by rw [Nat.zero_add, h.cell]; simp⟩
end

/-- What a row of the call's own holds reads. -/
theorem Ov.rd {w : World} {base size n c : Nat} {E : TypeId} {A : Option Addr} {vs : List Value} (h : Ov w base E size A n c vs) : Rd w w.heap.size A vs := fun hl => by
  have hn : 0 < n := by
    have := h.len
    rcases Nat.eq_zero_or_pos n with h0 | h0
    · subst h0; simp at this; rw [this] at hl; simp at hl
    · exact h0
  obtain ⟨g, rfl, _, hg, _, hc, _⟩ := h.at_ hn
  exact ⟨g, 0, rfl, hg, fun i hi => by rw [Nat.zero_add, hc i _ (List.getElem?_eq_getElem hi), List.getElem?_eq_getElem hi]⟩

/-- Cells that a row of the call's own may lead to: they lie below 'base', or in a block of type E. -/
def Ed (w : World) (base : Nat) (E : TypeId) (A : Option Addr) (vs : List Value) : Prop :=
  0 < vs.length → ∃ b off, A = some ⟨b, off, none⟩ ∧ b < w.heap.size ∧ (b < base ∨ ∃ cs fr, w.heap[b]? = some (.cells cs E fr)) ∧ ∀ i, i < vs.length → w.cell? ⟨b, off + i, none⟩ = vs[i]?

section
variable {w w' : World} {base : Nat} {E : TypeId} {A : Option Addr} {vs : List Value}
theorem Ed.rd (h : Ed w base E A vs) : Rd w w.heap.size A vs := fun hl => by
  obtain ⟨b, off, rfl, hb, _, hc⟩ := h hl
  exact ⟨b, off, rfl, hb, hc⟩
theorem Ed.nil : Ed w base E A [] := fun h => absurd h (by simp)
theorem Ed.of_rd (h : Rd w base A vs) (hb : base ≤ w.heap.size) : Ed w base E A vs := fun hl => by
  obtain ⟨b, off, rfl, hb', hc⟩ := h hl
  exact ⟨b, off, rfl, by omega, .inl hb', hc⟩
theorem Ed.of_ov {base' size n c : Nat} (h : Ov w base' E size A n c vs) : Ed w base E A vs := fun hl => by
  obtain ⟨b, off, he, hb, hc⟩ := h.rd hl
  refine ⟨b, off, he, hb, .inr ?_, hc⟩
  rcases h.2 with ⟨hv, _⟩ | ⟨g, cap, cur, hv, _, hg, _⟩
  · injection hv with hA; rw [hA] at he; cases he
  · injection hv with hA
    rw [hA] at he
    injection he with he
    injection he with h1
    subst h1
    exact ⟨cur, _, hg⟩
theorem Ed.kept {row : Option Nat} (h : Ed w base E A vs) (hg : w.grownBy w' row) (hrow : ∀ g, row = some g → base ≤ g ∧ ∀ cs fr, w.heap[g]? ≠ some (.cells cs E fr)) : Ed w' base E A vs := fun hl => by
  obtain ⟨b, off, rfl, hb, ht, hc⟩ := h hl
  have hne : some b ≠ row := by
    intro e
    obtain ⟨h1, h2⟩ := hrow b e.symm
    rcases ht with ht | ⟨cs, fr, ht⟩
    · omega
    · exact h2 cs fr ht
  have hblk := hg.block b hb hne
  refine ⟨b, off, rfl, Nat.lt_of_lt_of_le hb hg.size, ?_, fun i hi => (World.cell?_of_block (a := ⟨b, off + i, none⟩) hblk).trans (hc i hi)⟩
  rcases ht with ht | ⟨cs, fr, ht⟩
  · exact .inl ht
  · exact .inr ⟨cs, fr, hblk.trans ht⟩
theorem Ed.step (h : Ed w base E A vs) (hb : Below w.heap.size w w') : Ed w' base E A vs :=
  h.kept (row := none) ⟨hb.os, hb.tape, hb.output, hb.size, fun k hk _ => hb.block k hk⟩ (by simp)
theorem Ed.take (h : Ed w base E A vs) (n : Nat) : Ed w base E A (vs.take n) := fun hl => by
  obtain ⟨b, off, rfl, hb, ht, hc⟩ := h (by simp at hl; omega)
  refine ⟨b, off, rfl, hb, ht, fun i hi => ?_⟩
  have hi' : i < n ∧ i < vs.length := by simp at hi; omega
  rw [hc i hi'.2, List.getElem?_take, if_pos hi'.1]
end

section
variable {P : Program} {w : World}

/-- append onto a row of the call's own, whatever the source (nil let in). -/
theorem run_append_rd (t ty E : TypeId) (i : TypeInfo) (z : Value) (size bytes : Nat) (ht : P.underlying t = some (.slice E)) (hi : P.info? E = some i) (hz : i.zero = some z) (hsize : i.size = size) (hby : i.bytes = bytes) (hzs : z.cells.size = size) (hsz : 0 < size)
    {base n c : Nat} {A : Option Addr} {vs : List Value} (hown : Ov w base E size A n c vs) {B m c2 : Nat} {A2 : Option Addr} {news : List Value} (hl : news.length = m * size) (hr : Rd w B A2 news) (h1 : ∀ u ∈ news, u.oneCell' = true)
    (h63 : n + m ≤ 9223372036854775807) (hbytes : (n + m) * bytes ≤ 140737488355328) (hbase : base ≤ w.heap.size) :
    ∃ A' c' w', (Builtin.append_ #[t, t] ty #[.slice A n c, .slice A2 m c2]).run P w = .ok (.slice A' (n + m) c') w' ∧ Ov w' base E size A' (n + m) c' (vs ++ news) ∧ w.grownBy w' (Value.slice A n c).ownBlock ∧
      (A' = A ∨ A' = some ⟨w.heap.size, 0, none⟩) := by
  rcases A2 with _ | ad
  · obtain rfl : news = [] := by
      rcases Nat.eq_zero_or_pos news.length with h0 | h0
      · exact List.eq_nil_of_length_eq_zero h0
      · obtain ⟨b, off, he, _⟩ := hr h0
        cases he
    obtain rfl : m = 0 := by
      rcases Nat.eq_zero_or_pos m with h0 | h0
      · exact h0
      · have := Nat.mul_pos h0 hsz; simp at hl; omega
    refine ⟨A, c, w, ?_, by simpa using hown, World.grownBy.refl w _, .inl rfl⟩
    rcases hown.2 with ⟨hv, _⟩ | ⟨g, cap, cur, hv, _, _, hnc, _⟩
    · rw [hv]
      simp at hv
      simp [Builtin.append_, run_underlying ht, sizeOf, typeInfo, hi, Builtin.lenOf, Builtin.firstCells, hv]
    · simp at hv
      obtain ⟨rfl, rfl⟩ := hv
      simp [Builtin.append_, run_underlying ht, sizeOf, typeInfo, hi, Builtin.lenOf, Builtin.firstCells, hnc, storeCells]
  · refine run_append_vs (P := P) t ty E i z size bytes ht hi hz hsize hby hzs hsz hown ad m c2 news hl (fun j u hu => ?_) h1 h63 hbytes hbase
    have hj : j < news.length := (List.getElem?_eq_some_iff.1 hu).1
    obtain ⟨b, off, he, _, hc⟩ := hr (by omega)
    injection he with he
    subst he
    rw [Addr.add_lit, hc j hj, hu]

theorem wpList_append_rd {ops : Array Oper} {rest : List Oper} {o : Oper} {a : Act} {Q : Exit → Act → World → Prop} (hgd : o.guard = none) (s x : Operand) (t : TypeId)
    (ho : o.op = .call { callee := .builtin .append, args := #[s, x], argTypes := #[t, t] })
    (E : TypeId) (i : TypeInfo) (z : Value) (size bytes : Nat) (ht : P.underlying t = some (.slice E)) (hi : P.info? E = some i) (hz : i.zero = some z) (hsize : i.size = size) (hby : i.bytes = bytes) (hzs : z.cells.size = size) (hsz : 0 < size)
    {base n c : Nat} {A : Option Addr} {vs : List Value} (hs : a.eval s = .slice A n c) (hown : Ov w base E size A n c vs) {B m c2 : Nat} {A2 : Option Addr} {news : List Value} (hx : a.eval x = .slice A2 m c2) (hl : news.length = m * size) (hr : Rd w B A2 news) (h1 : ∀ u ∈ news, u.oneCell' = true)
    (h63 : n + m ≤ 9223372036854775807) (hbytes : (n + m) * bytes ≤ 140737488355328) (hbase : base ≤ w.heap.size)
    (h : ∀ A' c' w', Ov w' base E size A' (n + m) c' (vs ++ news) → w.grownBy w' (Value.slice A n c).ownBlock → (A' = A ∨ A' = some ⟨w.heap.size, 0, none⟩) → wpList P ops Q rest (a.put o.dst (.slice A' (n + m) c')) w') : wpList P ops Q (o :: rest) a w :=
  wpList_plain hgd fun _ hK => by
    obtain ⟨A', c', w', hrun, h2, h3, h4⟩ := run_append_rd (P := P) t o.type E i z size bytes ht hi hz hsize hby hzs hsz hown (c2 := c2) hl hr h1 h63 hbytes hbase
    have h5 := hK _ _ (h A' c' w' h2 h3 h4)
    unfold Oper.wp
    simp [execOp, ho, resolve, invoke, builtin, hs, hx, Result.andThen]
    rw [hrun]
    exact h5
end

/-- An int as a cell holds it. -/
def iv (n : Int) : Value := .int .i64 n
theorem iv_one (l : List Int) : ∀ u ∈ l.map iv, u.oneCell' = true := by
  intro u hu
  obtain ⟨b, _, rfl⟩ := List.mem_map.1 hu
  rfl
/-- A slice that reads as the ints l. -/
abbrev Is (w : World) (B : Nat) (A : Option Addr) (l : List Int) : Prop := Rd w B A (l.map iv)
theorem Is.at_ {w : World} {B : Nat} {A : Option Addr} {l : List Int} (h : Is w B A l) {k : Nat} (hk : k < l.length) : ∃ b off, A = some ⟨b, off, none⟩ ∧ b < B ∧ w.cell? ⟨b, off + k, none⟩ = some (.int .i64 (l.getD k 0)) := by
  obtain ⟨b, off, rfl, hb, hc⟩ := h (by simp; omega)
  refine ⟨b, off, rfl, hb, ?_⟩
  rw [hc k (by simpa using hk)]
  simp [hk, iv]

end Go.Proofs.Ytcgkoojegopfnaa
