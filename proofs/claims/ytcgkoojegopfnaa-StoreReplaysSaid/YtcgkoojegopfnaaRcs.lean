/- Records, in memory: rows of them that read, and rows of the call's own. -/
import Derived.Test.YtcgkoojegopfnaaEnt
import Derived.Test.YtcgkoojegopfnaaStoPut
namespace Go.Proofs.Ytcgkoojegopfnaa
open Go.RowKit
set_option linter.unusedSimpArgs false

abbrev bd64 (x : Int) : Prop := -9223372036854775808 ≤ x ∧ x ≤ 9223372036854775807

/-- The i-th of the rows of four cells is the record x. -/
def RcAt (w : World) (F : Nat → Prop) (vs : List Value) (i : Nat) (x : Rcd) : Prop :=
  ∃ Ac cc, vs[i * 4]? = some (.int .i64 x.kind) ∧ vs[i * 4 + 1]? = some (.int .i64 x.a) ∧ vs[i * 4 + 2]? = some (.int .i64 x.b) ∧ vs[i * 4 + 3]? = some (.slice Ac x.x.length cc) ∧ x.x.length ≤ cc ∧ cc ≤ maxLen ∧ BsF w F Ac x.x ∧ bd64 x.kind ∧ bd64 x.a ∧ bd64 x.b
theorem RcAt.keep {w w' : World} {F : Nat → Prop} {vs : List Value} {i : Nat} {x : Rcd} (h : RcAt w F vs i x) (hs : w.heap.size ≤ w'.heap.size) (hk : ∀ b, F b → b < w.heap.size → w'.heap[b]? = w.heap[b]?) : RcAt w' F vs i x := by
  obtain ⟨Ac, cc, h0, h1, h2, h3, h4, h5, h6, h7⟩ := h
  exact ⟨Ac, cc, h0, h1, h2, h3, h4, h5, h6.keep hs hk, h7⟩
theorem RcAt.mono {w : World} {F F' : Nat → Prop} {vs : List Value} {i : Nat} {x : Rcd} (h : RcAt w F vs i x) (hF : ∀ b, F b → b < w.heap.size → F' b) : RcAt w F' vs i x := by
  obtain ⟨Ac, cc, h0, h1, h2, h3, h4, h5, h6, h7⟩ := h
  exact ⟨Ac, cc, h0, h1, h2, h3, h4, h5, h6.mono hF, h7⟩
/-- The same cells, elsewhere in a list of cells. -/
theorem RcAt.move {w : World} {F : Nat → Prop} {vs us : List Value} {i j : Nat} {x : Rcd} (h : RcAt w F vs i x) (t : ∀ k, k < 4 → us[j * 4 + k]? = vs[i * 4 + k]?) : RcAt w F us j x := by
  obtain ⟨Ac, cc, h0, h1, h2, h3, h4⟩ := h
  exact ⟨Ac, cc, (t 0 (by omega)).trans h0, (t 1 (by omega)).trans h1, (t 2 (by omega)).trans h2, (t 3 (by omega)).trans h3, h4⟩

/-- A slice of records that reads as L, all of it in blocks of which F holds. -/
def Rc (w : World) (F : Nat → Prop) (A : Option Addr) (L : List Rcd) : Prop :=
  ∃ vs : List Value, vs.length = L.length * 4 ∧ (0 < vs.length → ∃ b off, A = some ⟨b, off, none⟩ ∧ F b ∧ b < w.heap.size ∧ ∀ i, i < vs.length → w.cell? ⟨b, off + i, none⟩ = vs[i]?) ∧ ∀ i x, L[i]? = some x → RcAt w F vs i x

section
variable {w w' : World} {F F' : Nat → Prop} {A : Option Addr} {L : List Rcd}
theorem Rc.nil : Rc w F A [] := ⟨[], rfl, fun h => absurd h (by simp), fun i x h => by simp at h⟩
theorem Rc.keep (h : Rc w F A L) (hs : w.heap.size ≤ w'.heap.size) (hk : ∀ b, F b → b < w.heap.size → w'.heap[b]? = w.heap[b]?) : Rc w' F A L := by
  obtain ⟨vs, h1, h2, h3⟩ := h
  refine ⟨vs, h1, fun hl => ?_, fun i x hx => (h3 i x hx).keep hs hk⟩
  obtain ⟨b, off, rfl, hf, hb, hc⟩ := h2 hl
  exact ⟨b, off, rfl, hf, by omega, fun i hi => (World.cell?_of_block (a := ⟨b, off + i, none⟩) (hk b hf hb)).trans (hc i hi)⟩
theorem Rc.mono (h : Rc w F A L) (hF : ∀ b, F b → b < w.heap.size → F' b) : Rc w F' A L := by
  obtain ⟨vs, h1, h2, h3⟩ := h
  refine ⟨vs, h1, fun hl => ?_, fun i x hx => (h3 i x hx).mono hF⟩
  obtain ⟨b, off, rfl, hf, hb, hc⟩ := h2 hl
  exact ⟨b, off, rfl, hF b hf hb, hb, hc⟩
theorem Rc.step (h : Rc w F A L) (hb : Below w.heap.size w w') : Rc w' F A L := h.keep hb.size fun b _ hlt => hb.block b hlt
/-- One of them, in its cells. -/
theorem Rc.at_ (h : Rc w F A L) {k : Nat} {x : Rcd} (hx : L[k]? = some x) :
    ∃ b off Ac cc, A = some ⟨b, off, none⟩ ∧ F b ∧ b < w.heap.size ∧ w.cell? ⟨b, off + k * 4, none⟩ = some (.int .i64 x.kind) ∧ w.cell? ⟨b, off + k * 4 + 1, none⟩ = some (.int .i64 x.a) ∧ w.cell? ⟨b, off + k * 4 + 2, none⟩ = some (.int .i64 x.b) ∧ w.cell? ⟨b, off + k * 4 + 3, none⟩ = some (.slice Ac x.x.length cc) ∧
      x.x.length ≤ cc ∧ cc ≤ maxLen ∧ BsF w F Ac x.x ∧ bd64 x.kind ∧ bd64 x.a ∧ bd64 x.b := by
  obtain ⟨vs, h1, h2, h3⟩ := h
  have hk : k < L.length := (List.getElem?_eq_some_iff.1 hx).1
  obtain ⟨b, off, rfl, hf, hb, hc⟩ := h2 (by omega)
  obtain ⟨Ac, cc, e1, e2, e3, e4, e5⟩ := h3 k x hx
  refine ⟨b, off, Ac, cc, rfl, hf, hb, ?_, ?_, ?_, ?_, e5⟩
  · rw [hc _ (by omega), e1]
  · rw [Nat.add_assoc, hc _ (by omega), e2]
  · rw [Nat.add_assoc, hc _ (by omega), e3]
  · rw [Nat.add_assoc, hc _ (by omega), e4]
/-- A slice of it: from k on, m of them. -/
theorem Rc.sub (h : Rc w F A L) (k m : Nat) (hk : k + m ≤ L.length) : Rc w F (A.map fun a => a.add (k * 4)) ((L.drop k).take m) := by
  obtain ⟨vs, h1, h2, h3⟩ := h
  have hlen : ((L.drop k).take m).length = m := by rw [List.length_take, List.length_drop]; omega
  have hg : ∀ j, j < m * 4 → ((vs.drop (k * 4)).take (m * 4))[j]? = vs[k * 4 + j]? := fun j hj => by rw [List.getElem?_take, if_pos hj, List.getElem?_drop]
  refine ⟨(vs.drop (k * 4)).take (m * 4), by rw [List.length_take, List.length_drop, hlen, h1]; omega, fun hl => ?_, fun i x hx => ?_⟩
  · have hl2 : ((vs.drop (k * 4)).take (m * 4)).length = m * 4 := by rw [List.length_take, List.length_drop, h1]; omega
    rw [hl2] at hl
    obtain ⟨b, off, rfl, hf, hb, hc⟩ := h2 (by omega)
    refine ⟨b, off + k * 4, by rw [Option.map_some, Addr.add_lit], hf, hb, fun i hi => ?_⟩
    rw [hl2] at hi
    rw [hg i hi, ← hc _ (by omega), Nat.add_assoc]
  · have hi : i < m := by have := (List.getElem?_eq_some_iff.1 hx).1; omega
    rw [List.getElem?_take, if_pos hi, List.getElem?_drop] at hx
    exact (h3 _ x hx).move fun j hj => by rw [hg _ (by omega)]; congr 1; omega
end

/-- A row of records of the call's own, whose bytes lie in blocks of which F holds. -/
def OwnC (w : World) (base : Nat) (F : Nat → Prop) (A : Option Addr) (n c : Nat) (L : List Rcd) : Prop :=
  L.length = n ∧ ∃ vs : List Value, Ov w base TRec 4 A n c vs ∧ ∀ i x, L[i]? = some x → RcAt w F vs i x
section
variable {w w' : World} {base n c : Nat} {F : Nat → Prop} {A : Option Addr} {L : List Rcd}
theorem OwnC.nil_ (w : World) (base : Nat) (F : Nat → Prop) : OwnC w base F none 0 0 [] := ⟨rfl, [], Ov.nil_ _ _ _ _, fun i x h => by simp at h⟩
theorem OwnC.empty (hb : base ≤ w.heap.size) : OwnC (w.alloc (.cells #[] TRec)) base F (some ⟨w.heap.size, 0, none⟩) 0 0 [] := ⟨rfl, [], Ov.empty hb, fun i x h => by simp at h⟩
theorem OwnC.step (h : OwnC w base F A n c L) (hb : Below w.heap.size w w') : OwnC w' base F A n c L := by
  obtain ⟨hn, vs, ho, hi⟩ := h
  exact ⟨hn, vs, ho.step hb, fun i x hx => (hi i x hx).keep hb.size fun b _ hlt => hb.block b hlt⟩
theorem OwnC.cap (h : OwnC w base F A n c L) : n ≤ c ∧ c ≤ maxLen := by
  obtain ⟨_, vs, ho, _⟩ := h
  exact ho.cap
theorem OwnC.rc (h : OwnC w base F A n c L) {F' : Nat → Prop} (hF : ∀ b, F b → b < w.heap.size → F' b) (hB : ∀ b, base ≤ b → b < w.heap.size → F' b) : Rc w F' A L := by
  obtain ⟨hn, vs, ho, hi⟩ := h
  refine ⟨vs, by rw [ho.len, hn], fun hl => ?_, fun i x hx => (hi i x hx).mono hF⟩
  obtain ⟨b, off, he, hb, hc⟩ := ho.rd hl
  exact ⟨b, off, he, hB b (ho.row b (by rw [he]; rfl)).1 hb, hb, hc⟩
theorem OwnC.below {w0 : World} (h : OwnC w w0.heap.size F A n c L) (hb : Below w0.heap.size w0 w) (hg : w.grownBy w' (Value.slice A n c).ownBlock) : Below w0.heap.size w0 w' := by
  obtain ⟨_, vs, ho, _⟩ := h
  exact ho.below hb hg
end

theorem infoRcd : (Try.prog.info? TRec).map (fun i => (i.zero, i.size, i.bytes)) = some (some (.agg #[.int .i64 0, .int .i64 0, .int .i64 0, .slice none 0 0]), 4, 48) := by kernel_rfl

/-- append of records onto a row of the call's own: the run. -/
theorem run_appC {w : World} (ty : TypeId) {base n c m cx B : Nat} {F : Nat → Prop} {A Ax : Option Addr} {L L2 : List Rcd} (hown : OwnC w base F A n c L) {vs2 : List Value} (hm : L2.length = m) (hl2 : vs2.length = m * 4) (hr : Rd w B Ax vs2) (hin : ∀ i y, L2[i]? = some y → RcAt w F vs2 i y) (hone : ∀ u ∈ vs2, u.oneCell' = true)
    (hbytes : n + m ≤ 1000000) (hbase : base ≤ w.heap.size) (hF : ∀ b, F b → b < w.heap.size → some b ≠ (Value.slice A n c).ownBlock) :
    ∃ A' c' w', (Builtin.append_ #[62, 62] ty #[.slice A n c, .slice Ax m cx]).run Try.prog w = .ok (.slice A' (n + m) c') w' ∧ OwnC w' base F A' (n + m) c' (L ++ L2) ∧ w.grownBy w' (Value.slice A n c).ownBlock ∧ (A' = A ∨ A' = some ⟨w.heap.size, 0, none⟩) := by
  obtain ⟨i, hi, hz, hsz, hby⟩ := info_parts infoRcd
  obtain ⟨hLn, vs, hov, hvi⟩ := id hown
  obtain ⟨A', c', w', hrun, ho', hg', hA'⟩ := run_append_rd (P := Try.prog) 62 ty TRec i _ 4 48 Try.underlying62 hi hz hsz hby rfl (by omega) hov (c2 := cx) hl2 hr hone (by omega) (by omega) hbase
  refine ⟨A', c', w', hrun, ⟨by rw [List.length_append, hLn, hm], _, ho', fun j y hy => ?_⟩, hg', hA'⟩
  have hlen := hov.len
  have hkeep : ∀ b, F b → b < w.heap.size → w'.heap[b]? = w.heap[b]? := fun b hf hb => hg'.block b hb (hF b hf hb)
  by_cases hj : j < L.length
  · rw [List.getElem?_append_left hj] at hy
    exact ((hvi j y hy).move fun k hk => List.getElem?_append_left (by omega)).keep hg'.size hkeep
  · rw [List.getElem?_append_right (by omega)] at hy
    exact ((hin _ y hy).move fun k hk => by
      rw [List.getElem?_append_right (by omega), show j * 4 + k - vs.length = (j - L.length) * 4 + k by omega]).keep hg'.size hkeep

theorem appC {w : World} {ops : Array Oper} {rest : List Oper} {o : Oper} {a : Act} {Q : Exit → Act → World → Prop} (hgd : o.guard = none) (s x : Operand)
    (ho : o.op = .call { callee := .builtin .append, args := #[s, x], argTypes := #[62, 62] })
    {base n c m cx B : Nat} {F : Nat → Prop} {A Ax : Option Addr} {L L2 : List Rcd} (hs : a.eval s = .slice A n c) (hown : OwnC w base F A n c L) (hx : a.eval x = .slice Ax m cx)
    {vs2 : List Value} (hm : L2.length = m) (hl2 : vs2.length = m * 4) (hr : Rd w B Ax vs2) (hin : ∀ i y, L2[i]? = some y → RcAt w F vs2 i y) (hone : ∀ u ∈ vs2, u.oneCell' = true)
    (hbytes : n + m ≤ 1000000) (hbase : base ≤ w.heap.size) (hF : ∀ b, F b → b < w.heap.size → some b ≠ (Value.slice A n c).ownBlock)
    (h : ∀ A' c' w', OwnC w' base F A' (n + m) c' (L ++ L2) → w.grownBy w' (Value.slice A n c).ownBlock → (A' = A ∨ A' = some ⟨w.heap.size, 0, none⟩) → wpList Try.prog ops Q rest (a.put o.dst (.slice A' (n + m) c')) w') :
    wpList Try.prog ops Q (o :: rest) a w :=
  wpList_plain hgd fun _ hK => by
    obtain ⟨A', c', w', hrun, h2, h3, h4⟩ := run_appC o.type hown (cx := cx) hm hl2 hr hin hone hbytes hbase hF
    have h5 := hK _ _ (h A' c' w' h2 h3 h4)
    unfold Oper.wp
    simp [execOp, ho, resolve, invoke, builtin, hs, hx, Result.andThen]
    rw [hrun]
    exact h5
end Go.Proofs.Ytcgkoojegopfnaa
