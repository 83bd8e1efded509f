/- Entries of a log, in memory: rows of them that read, and rows of the call's own; a node's state. -/
import Derived.Test.YtcgkoojegopfnaaMem
import Derived.Test.YtcgkoojegopfnaaStoP
import Derived.Test.YtcgkoojegopfnaaApp
import Derived.Lib.Hide
namespace Go.Proofs.Ytcgkoojegopfnaa
open Go.RowKit

structure Ent where
  term : Int
  b : List UInt8
deriving DecidableEq
structure Stb where
  floor : Int
  term : Int
  vote : Int
  log : List Ent
deriving DecidableEq
instance : Inhabited Ent := ⟨⟨0, []⟩⟩

abbrev TE : TypeId := 78
abbrev TSt : TypeId := 47

/-- The bytes l, in a block of which F holds. -/
def BsF (w : World) (F : Nat → Prop) (A : Option Addr) (l : List UInt8) : Prop :=
  0 < l.length → ∃ b off, A = some ⟨b, off, none⟩ ∧ F b ∧ b < w.heap.size ∧ ∀ i (h : i < l.length), w.cell? ⟨b, off + i, none⟩ = some (.int .u8 ((l[i]'h).toNat : Int))
theorem BsF.nil {w : World} {F : Nat → Prop} {A : Option Addr} : BsF w F A [] := fun h => absurd h (by simp)
theorem BsF.keep {w w' : World} {F : Nat → Prop} {A : Option Addr} {l : List UInt8} (h : BsF w F A l) (hs : w.heap.size ≤ w'.heap.size) (hk : ∀ b, F b → b < w.heap.size → w'.heap[b]? = w.heap[b]?) : BsF w' F A l := fun hl => by
  obtain ⟨b, off, rfl, hf, hb, hc⟩ := h hl
  exact ⟨b, off, rfl, hf, by omega, fun i hi => (World.cell?_of_block (a := ⟨b, off + i, none⟩) (hk b hf hb)).trans (hc i hi)⟩
theorem BsF.mono {w : World} {F F' : Nat → Prop} {A : Option Addr} {l : List UInt8} (h : BsF w F A l) (hF : ∀ b, F b → b < w.heap.size → F' b) : BsF w F' A l := fun hl => by
  obtain ⟨b, off, rfl, hf, hb, hc⟩ := h hl
  exact ⟨b, off, rfl, hF b hf hb, hb, hc⟩
theorem BsF.bs {w : World} {F : Nat → Prop} {A : Option Addr} {l : List UInt8} (h : BsF w F A l) : Bs w w.heap.size A l := fun hl => by
  obtain ⟨b, off, rfl, hf, hb, hc⟩ := h hl
  exact ⟨b, off, rfl, hb, fun i hi => by rw [hc i hi]; simp [List.getD, hi]⟩
theorem BsF.of_bs {w : World} {B : Nat} {A : Option Addr} {l : List UInt8} (h : Bs w B A l) (hB : B ≤ w.heap.size) : BsF w (· < B) A l := fun hl => by
  obtain ⟨b, off, rfl, hb, hc⟩ := h hl
  exact ⟨b, off, rfl, hb, by omega, fun i hi => by rw [hc i hi]; simp [List.getD, hi]⟩
theorem BsF.of_own {w : World} {base n c : Nat} {A : Option Addr} {l : List UInt8} (h : Own w base A n c l) : BsF w (fun b => base ≤ b) A l := fun hl => by
  obtain ⟨b, off, he, hb, hc⟩ := h.bs hl
  refine ⟨b, off, he, ?_, hb, fun i hi => by rw [hc i hi]; simp [List.getD, hi]⟩
  exact (h.ov.row b (by rw [he]; rfl)).1

/-- The i-th of the rows of two cells is the entry x. -/
def EnAt (w : World) (F : Nat → Prop) (vs : List Value) (i : Nat) (x : Ent) : Prop :=
  ∃ Ac cc, vs[i * 2]? = some (.int .i64 x.term) ∧ vs[i * 2 + 1]? = some (.slice Ac x.b.length cc) ∧ x.b.length ≤ cc ∧ cc ≤ maxLen ∧ BsF w F Ac x.b
theorem EnAt.keep {w w' : World} {F : Nat → Prop} {vs : List Value} {i : Nat} {x : Ent} (h : EnAt w F vs i x) (hs : w.heap.size ≤ w'.heap.size) (hk : ∀ b, F b → b < w.heap.size → w'.heap[b]? = w.heap[b]?) : EnAt w' F vs i x := by
  obtain ⟨Ac, cc, h1, h2, h3, h4, h5⟩ := h
  exact ⟨Ac, cc, h1, h2, h3, h4, h5.keep hs hk⟩
theorem EnAt.mono {w : World} {F F' : Nat → Prop} {vs : List Value} {i : Nat} {x : Ent} (h : EnAt w F vs i x) (hF : ∀ b, F b → b < w.heap.size → F' b) : EnAt w F' vs i x := by
  obtain ⟨Ac, cc, h1, h2, h3, h4, h5⟩ := h
  exact ⟨Ac, cc, h1, h2, h3, h4, h5.mono hF⟩

/-- A slice of entries that reads as L, all of it in blocks of which F holds. -/
def En (w : World) (F : Nat → Prop) (A : Option Addr) (L : List Ent) : Prop :=
  ∃ vs : List Value, vs.length = L.length * 2 ∧ (0 < vs.length → ∃ b off, A = some ⟨b, off, none⟩ ∧ F b ∧ b < w.heap.size ∧ ∀ i, i < vs.length → w.cell? ⟨b, off + i, none⟩ = vs[i]?) ∧ ∀ i x, L[i]? = some x → EnAt w F vs i x

section
variable {w w' : World} {F F' : Nat → Prop} {A : Option Addr} {L : List Ent}
theorem En.nil : En w F A [] := ⟨[], rfl, fun h => absurd h (by simp), fun i x h => by simp at h⟩
theorem En.keep (h : En w F A L) (hs : w.heap.size ≤ w'.heap.size) (hk : ∀ b, F b → b < w.heap.size → w'.heap[b]? = w.heap[b]?) : En w' F A L := by
  obtain ⟨vs, h1, h2, h3⟩ := h
  refine ⟨vs, h1, fun hl => ?_, fun i x hx => (h3 i x hx).keep hs hk⟩
  obtain ⟨b, off, rfl, hf, hb, hc⟩ := h2 hl
  exact ⟨b, off, rfl, hf, by omega, fun i hi => (World.cell?_of_block (a := ⟨b, off + i, none⟩) (hk b hf hb)).trans (hc i hi)⟩
theorem En.mono (h : En w F A L) (hF : ∀ b, F b → b < w.heap.size → F' b) : En w F' A L := by
  obtain ⟨vs, h1, h2, h3⟩ := h
  refine ⟨vs, h1, fun hl => ?_, fun i x hx => (h3 i x hx).mono hF⟩
  obtain ⟨b, off, rfl, hf, hb, hc⟩ := h2 hl
  exact ⟨b, off, rfl, hF b hf hb, hb, hc⟩
theorem En.step (h : En w F A L) (hb : Below w.heap.size w w') : En w' F A L := h.keep hb.size fun b _ hlt => hb.block b hlt
theorem En.take (h : En w F A L) (n : Nat) : En w F A (L.take n) := by
  obtain ⟨vs, h1, h2, h3⟩ := h
  refine ⟨vs.take (n * 2), by rw [List.length_take, List.length_take, h1, Nat.min_def, Nat.min_def]; split <;> split <;> omega, fun hl => ?_, fun i x hx => ?_⟩
  · obtain ⟨b, off, rfl, hf, hb, hc⟩ := h2 (by simp at hl; omega)
    refine ⟨b, off, rfl, hf, hb, fun i hi => ?_⟩
    have hi' : i < n * 2 ∧ i < vs.length := by simp at hi; omega
    rw [hc i hi'.2, List.getElem?_take, if_pos hi'.1]
  · rw [List.getElem?_take] at hx
    split at hx
    · rename_i hi
      obtain ⟨Ac, cc, e1, e2, e3, e4, e5⟩ := h3 i x hx
      have t : ∀ j, j < 2 → (vs.take (n * 2))[i * 2 + j]? = vs[i * 2 + j]? := fun j hj => by rw [List.getElem?_take, if_pos (by omega)]
      exact ⟨Ac, cc, by rw [← e1]; exact t 0 (by omega), by rw [t 1 (by omega), e2], e3, e4, e5⟩
    · cases hx
/-- One of them, in its cells. -/
theorem En.at_ (h : En w F A L) {k : Nat} {x : Ent} (hx : L[k]? = some x) :
    ∃ b off Ac cc, A = some ⟨b, off, none⟩ ∧ F b ∧ b < w.heap.size ∧ w.cell? ⟨b, off + k * 2, none⟩ = some (.int .i64 x.term) ∧ w.cell? ⟨b, off + k * 2 + 1, none⟩ = some (.slice Ac x.b.length cc) ∧ x.b.length ≤ cc ∧ cc ≤ maxLen ∧ BsF w F Ac x.b := by
  obtain ⟨vs, h1, h2, h3⟩ := h
  have hk : k < L.length := (List.getElem?_eq_some_iff.1 hx).1
  obtain ⟨b, off, rfl, hf, hb, hc⟩ := h2 (by omega)
  obtain ⟨Ac, cc, e1, e2, e3, e4, e5⟩ := h3 k x hx
  refine ⟨b, off, Ac, cc, rfl, hf, hb, ?_, ?_, e3, e4, e5⟩
  · rw [hc _ (by omega), e1]
  · rw [Nat.add_assoc, hc _ (by omega), e2]
end

/-- A row of entries of the call's own, whose bytes lie in blocks of which F holds. -/
def OwnE (w : World) (base : Nat) (F : Nat → Prop) (A : Option Addr) (n c : Nat) (L : List Ent) : Prop :=
  L.length = n ∧ ∃ vs : List Value, Ov w base TE 2 A n c vs ∧ ∀ i x, L[i]? = some x → EnAt w F vs i x
section
variable {w w' : World} {base n c : Nat} {F : Nat → Prop} {A : Option Addr} {L : List Ent}
theorem OwnE.nil_ (w : World) (base : Nat) (F : Nat → Prop) : OwnE w base F none 0 0 [] := ⟨rfl, [], Ov.nil_ _ _ _ _, fun i x h => by simp at h⟩
theorem OwnE.empty (hb : base ≤ w.heap.size) : OwnE (w.alloc (.cells #[] TE)) base F (some ⟨w.heap.size, 0, none⟩) 0 0 [] := ⟨rfl, [], Ov.empty hb, fun i x h => by simp at h⟩
theorem OwnE.step (h : OwnE w base F A n c L) (hb : Below w.heap.size w w') : OwnE w' base F A n c L := by
  obtain ⟨hn, vs, ho, hi⟩ := h
  exact ⟨hn, vs, ho.step hb, fun i x hx => (hi i x hx).keep hb.size fun b _ hlt => hb.block b hlt⟩
theorem OwnE.cap (h : OwnE w base F A n c L) : n ≤ c ∧ c ≤ maxLen := by
  obtain ⟨_, vs, ho, _⟩ := h
  exact ho.cap
theorem OwnE.en (h : OwnE w base F A n c L) {F' : Nat → Prop} (hF : ∀ b, F b → b < w.heap.size → F' b) (hB : ∀ b, base ≤ b → b < w.heap.size → F' b) : En w F' A L := by
  obtain ⟨hn, vs, ho, hi⟩ := h
  refine ⟨vs, by rw [ho.len, hn], fun hl => ?_, fun i x hx => (hi i x hx).mono hF⟩
  obtain ⟨b, off, he, hb, hc⟩ := ho.rd hl
  exact ⟨b, off, he, hB b (ho.row b (by rw [he]; rfl)).1 hb, hb, hc⟩
theorem OwnE.below {w0 : World} (h : OwnE w w0.heap.size F A n c L) (hb : Below w0.heap.size w0 w) (hg : w.grownBy w' (Value.slice A n c).ownBlock) : Below w0.heap.size w0 w' := by
  obtain ⟨_, vs, ho, _⟩ := h
  exact ho.below hb hg
end

theorem infoEnt : (Try.prog.info? TE).map (fun i => (i.zero, i.size, i.bytes)) = some (some (.agg #[.int .i64 0, .slice none 0 0]), 2, 32) := by kernel_rfl

theorem En.cells {w : World} {F : Nat → Prop} {A : Option Addr} {L : List Ent} (h : En w F A L) : ∃ vs : List Value, vs.length = L.length * 2 ∧ Rd w w.heap.size A vs ∧ (∀ i x, L[i]? = some x → EnAt w F vs i x) ∧ ∀ u ∈ vs, u.oneCell' = true := by
  obtain ⟨vs, h1, h2, h3⟩ := h
  refine ⟨vs, h1, fun hl => ?_, h3, fun u hu => ?_⟩
  · obtain ⟨b, off, rfl, _, hb, hc⟩ := h2 hl
    exact ⟨b, off, rfl, hb, hc⟩
  · obtain ⟨j, hj, rfl⟩ := List.getElem_of_mem hu
    have hx : L[j / 2]? = some (L[j / 2]'(by omega)) := List.getElem?_eq_getElem (by omega)
    obtain ⟨Ac, cc, e1, e2, _⟩ := h3 _ _ hx
    have hv : vs[j]? = some vs[j] := List.getElem?_eq_getElem hj
    have hcase : j = j / 2 * 2 ∨ j = j / 2 * 2 + 1 := by omega
    rcases hcase with e | e
    · rw [← e, hv] at e1; injection e1 with e1; rw [e1]; rfl
    · rw [← e, hv] at e2; injection e2 with e2; rw [e2]; rfl

/-- append of entries onto a row of the call's own: the run. -/
theorem run_appE {w : World} (ty : TypeId) {base n c m cx B : Nat} {F : Nat → Prop} {A Ax : Option Addr} {L L2 : List Ent} (hown : OwnE w base F A n c L) {vs2 : List Value} (hm : L2.length = m) (hl2 : vs2.length = m * 2) (hr : Rd w B Ax vs2) (hin : ∀ i y, L2[i]? = some y → EnAt w F vs2 i y) (hone : ∀ u ∈ vs2, u.oneCell' = true)
    (hbytes : n + m ≤ 1000000) (hbase : base ≤ w.heap.size) (hF : ∀ b, F b → b < w.heap.size → some b ≠ (Value.slice A n c).ownBlock) :
    ∃ A' c' w', (Builtin.append_ #[45, 45] ty #[.slice A n c, .slice Ax m cx]).run Try.prog w = .ok (.slice A' (n + m) c') w' ∧ OwnE w' base F A' (n + m) c' (L ++ L2) ∧ w.grownBy w' (Value.slice A n c).ownBlock ∧ (A' = A ∨ A' = some ⟨w.heap.size, 0, none⟩) := by
  obtain ⟨i, hi, hz, hsz, hby⟩ := info_parts infoEnt
  obtain ⟨hLn, vs, hov, hvi⟩ := id hown
  obtain ⟨A', c', w', hrun, ho', hg', hA'⟩ := run_append_rd (P := Try.prog) 45 ty TE i _ 2 32 Try.underlying45 hi hz hsz hby rfl (by omega) hov (c2 := cx) hl2 hr hone (by omega) (by omega) hbase
  refine ⟨A', c', w', hrun, ⟨by rw [List.length_append, hLn, hm], _, ho', fun j y hy => ?_⟩, hg', hA'⟩
  have hlen := hov.len
  have hkeep : ∀ b, F b → b < w.heap.size → w'.heap[b]? = w.heap[b]? := fun b hf hb => hg'.block b hb (hF b hf hb)
  by_cases hj : j < L.length
  · rw [List.getElem?_append_left hj] at hy
    obtain ⟨Ac, cc, e1, e2, e3, e4, e5⟩ := hvi j y hy
    have t : ∀ k, k < 2 → (vs ++ vs2)[j * 2 + k]? = vs[j * 2 + k]? := fun k hk => List.getElem?_append_left (by omega)
    exact ⟨Ac, cc, by rw [← e1]; exact t 0 (by omega), by rw [t 1 (by omega), e2], e3, e4, e5.keep hg'.size hkeep⟩
  · rw [List.getElem?_append_right (by omega)] at hy
    obtain ⟨Ac, cc, e1, e2, e3, e4, e5⟩ := hin _ y hy
    have t : ∀ k, k < 2 → (vs ++ vs2)[j * 2 + k]? = vs2[(j - L.length) * 2 + k]? := fun k hk => by
      rw [List.getElem?_append_right (by omega), show j * 2 + k - vs.length = (j - L.length) * 2 + k by omega]
    exact ⟨Ac, cc, by rw [← e1]; exact t 0 (by omega), by rw [t 1 (by omega), e2], e3, e4, e5.keep hg'.size hkeep⟩

theorem appE {w : World} {ops : Array Oper} {rest : List Oper} {o : Oper} {a : Act} {Q : Exit → Act → World → Prop} (hgd : o.guard = none) (s x : Operand)
    (ho : o.op = .call { callee := .builtin .append, args := #[s, x], argTypes := #[45, 45] })
    {base n c m cx B : Nat} {F : Nat → Prop} {A Ax : Option Addr} {L L2 : List Ent} (hs : a.eval s = .slice A n c) (hown : OwnE w base F A n c L) (hx : a.eval x = .slice Ax m cx)
    {vs2 : List Value} (hm : L2.length = m) (hl2 : vs2.length = m * 2) (hr : Rd w B Ax vs2) (hin : ∀ i y, L2[i]? = some y → EnAt w F vs2 i y) (hone : ∀ u ∈ vs2, u.oneCell' = true)
    (hbytes : n + m ≤ 1000000) (hbase : base ≤ w.heap.size) (hF : ∀ b, F b → b < w.heap.size → some b ≠ (Value.slice A n c).ownBlock)
    (h : ∀ A' c' w', OwnE w' base F A' (n + m) c' (L ++ L2) → w.grownBy w' (Value.slice A n c).ownBlock → (A' = A ∨ A' = some ⟨w.heap.size, 0, none⟩) → wpList Try.prog ops Q rest (a.put o.dst (.slice A' (n + m) c')) w') :
    wpList Try.prog ops Q (o :: rest) a w :=
  wpList_plain hgd fun _ hK => by
    obtain ⟨A', c', w', hrun, h2, h3, h4⟩ := run_appE o.type hown (cx := cx) hm hl2 hr hin hone hbytes hbase hF
    have h5 := hK _ _ (h A' c' w' h2 h3 h4)
    unfold Oper.wp
    simp [execOp, ho, resolve, invoke, builtin, hs, hx, Result.andThen]
    rw [hrun]
    exact h5
end Go.Proofs.Ytcgkoojegopfnaa
