/- append onto a row of the call's own, whatever its elements. -/
import Derived.Test.YtcgkoojegopfnaaBytes
import Derived.Maps.AppendAt
namespace Go.Proofs.Ytcgkoojegopfnaa
open Go.RowKit

/-- The slice value is the call's own (in a block from 'base' on; elements of type E, 'size' cells each), n elements long, and its cells are vs. -/
def Ov (w : World) (base : Nat) (E : TypeId) (size : Nat) (A : Option Addr) (n c : Nat) (vs : List Value) : Prop := w.ownsRow base E size (.slice A n c) n vs

section
variable {w w' : World} {base size n c : Nat} {E : TypeId} {A : Option Addr} {vs : List Value}
theorem Ov.len (h : Ov w base E size A n c vs) : vs.length = n * size := h.1
theorem Ov.nil_ (w : World) (base : Nat) (E : TypeId) (size : Nat) : Ov w base E size none 0 0 [] := World.ownsRow_nil w base E size
theorem Ov.empty (hb : base ≤ w.heap.size) : Ov (w.alloc (.cells #[] E)) base E size (some ⟨w.heap.size, 0, none⟩) 0 0 [] := World.ownsRow_made w #[] 0 hb (Nat.zero_le _) (by simp)
theorem Ov.alloc (h : Ov w base E size A n c vs) (o : Obj) : Ov (w.alloc o) base E size A n c vs := World.ownsRow.alloc h o
theorem Ov.kept {row : Option Nat} (h : Ov w base E size A n c vs) (hg : w.grownBy w' row) (hne : ∀ a, A = some a → row ≠ some a.block) : Ov w' base E size A n c vs := by
  refine World.ownsRow.kept h hg ?_
  cases A with
  | none => exact .inl rfl
  | some a => exact .inr (fun e => hne a rfl (by rw [← e]; rfl))
theorem Ov.step (h : Ov w base E size A n c vs) (hb : Below w.heap.size w w') : Ov w' base E size A n c vs :=
  h.kept (row := none) ⟨hb.os, hb.tape, hb.output, hb.size, fun k hk _ => hb.block k hk⟩ (by simp)
theorem Ov.mono {base' : Nat} (h : Ov w base E size A n c vs) (hb : base' ≤ base) : Ov w base' E size A n c vs := by
  refine ⟨h.1, ?_⟩
  rcases h.2 with h' | ⟨g, cap, cur, hv, hg, r⟩
  · exact .inl h'
  · exact .inr ⟨g, cap, cur, hv, Nat.le_trans hb hg, r⟩
theorem Ov.cap (h : Ov w base E size A n c vs) : n ≤ c ∧ c ≤ maxLen := by
  rcases h.2 with ⟨hv, h0⟩ | ⟨g, cap, cur, hv, hb, hg, hnc, hcm, hsz, htake⟩
  · injection hv with _ _ hc
    subst hc
    omega
  · injection hv with _ _ hc
    subst hc
    exact ⟨hnc, hcm⟩
theorem Ov.at_ (h : Ov w base E size A n c vs) (hn : 0 < n) :
    ∃ g, A = some ⟨g, 0, none⟩ ∧ base ≤ g ∧ g < w.heap.size ∧ (∃ cs, w.heap[g]? = some (.cells cs E (0, 0))) ∧ (∀ i u, vs[i]? = some u → w.cell? ⟨g, i, none⟩ = some u) ∧ ∀ i, w.frozen? ⟨g, i, none⟩ = false := by
  rcases h.2 with ⟨_, h0⟩ | ⟨g, cap, cur, hv, hb, hg, hnc, hcm, hsz, htake⟩
  · omega
  · injection hv with hA
    subst hA
    refine ⟨g, rfl, hb, (Array.getElem?_eq_some_iff.1 hg).1, ⟨cur, hg⟩, fun i u hu => ?_, fun i => by simp [World.frozen?, hg]⟩
    have hc := World.ownsRow.cells (w := w) (v := .slice (some ⟨g, 0, none⟩) n c) h (g := g) rfl i u hu
    rwa [show (⟨g, 0, none⟩ : Addr).add i = ⟨g, i, none⟩ by unfold Addr.add; split <;> simp_all] at hc
/-- The block that an append may write: one of the call's own. -/
theorem Ov.row (h : Ov w base E size A n c vs) : ∀ g, (Value.slice A n c).ownBlock = some g → base ≤ g ∧ g < w.heap.size ∧ ∃ cs, w.heap[g]? = some (.cells cs E (0, 0)) := by
  intro g hg
  rcases h.2 with ⟨hv, _⟩ | ⟨g', cap, cur, hv, hb, hgg, _⟩
  · rw [hv] at hg; simp [Value.ownBlock] at hg
  · rw [hv] at hg
    simp [Value.ownBlock] at hg
    subst hg
    exact ⟨hb, (Array.getElem?_eq_some_iff.1 hgg).1, cur, hgg⟩
theorem Ov.below {w0 : World} (h : Ov w w0.heap.size E size A n c vs) (hb : Below w0.heap.size w0 w) (hg : w.grownBy w' (Value.slice A n c).ownBlock) : Below w0.heap.size w0 w' :=
  hb.grown hg hb.size (fun k hk => (h.row k hk).1)
end

/-- The block that is written (if any) holds elements of another type than E. -/
def NotT (w : World) (row : Option Nat) (E : TypeId) : Prop := ∀ g, row = some g → ∀ cs fr, w.heap[g]? ≠ some (.cells cs E fr)

theorem Ov.notT {w : World} {base size n c : Nat} {E E' : TypeId} {A : Option Addr} {vs : List Value} (h : Ov w base E size A n c vs) (hne : E ≠ E') : NotT w (Value.slice A n c).ownBlock E' := by
  intro g hg cs' fr' e
  obtain ⟨_, _, cs, h2⟩ := h.row g hg
  rw [h2] at e
  injection e with e
  injection e with _ e
  exact hne e

theorem Ov.keptT {w w' : World} {base size n c : Nat} {E : TypeId} {A : Option Addr} {vs : List Value} {row : Option Nat} (h : Ov w base E size A n c vs) (hg : w.grownBy w' row) (hr : NotT w row E) : Ov w' base E size A n c vs := by
  refine h.kept hg (fun a ha e => ?_)
  subst ha
  obtain ⟨_, _, cs, h2⟩ := h.row a.block rfl
  exact hr _ e cs _ h2

section
variable {P : Program} {w : World}

theorem run_append_vs (t ty E : TypeId) (i : TypeInfo) (z : Value) (size bytes : Nat) (ht : P.underlying t = some (.slice E)) (hi : P.info? E = some i) (hz : i.zero = some z) (hsize : i.size = size) (hby : i.bytes = bytes) (hzs : z.cells.size = size) (hsz : 0 < size)
    {base n c : Nat} {A : Option Addr} {vs : List Value} (hown : Ov w base E size A n c vs) (ad : Addr) (m c2 : Nat) (news : List Value) (hl : news.length = m * size) (hnews : ∀ j u, news[j]? = some u → w.cell? (ad.add j) = some u) (h1 : ∀ u ∈ news, u.oneCell' = true)
    (h63 : n + m ≤ 9223372036854775807) (hbytes : (n + m) * bytes ≤ 140737488355328) (hbase : base ≤ w.heap.size) :
    ∃ A' c' w', (Builtin.append_ #[t, t] ty #[.slice A n c, .slice (some ad) m c2]).run P w = .ok (.slice A' (n + m) c') w' ∧ Ov w' base E size A' (n + m) c' (vs ++ news) ∧ w.grownBy w' (Value.slice A n c).ownBlock ∧
      (A' = A ∨ A' = some ⟨w.heap.size, 0, none⟩) := by
  obtain ⟨v', w', hrun, h2, h3, _, h5⟩ := run_append_own_at (P := P) w base t ty E i z size bytes ht hi hz hsize hby hzs hsz _ n vs hown ad m c2 news hl hnews h1 (by unfold maxLen; omega) hbytes hbase
  have shape : ∃ A' c', v' = .slice A' (n + m) c' ∧ (A' = A ∨ A' = some ⟨w.heap.size, 0, none⟩) := by
    rcases h2.2 with ⟨rfl, h0⟩ | ⟨g, cap, cur, rfl, hrest⟩
    · refine ⟨none, 0, by rw [h0], ?_⟩
      cases A with
      | none => exact .inl rfl
      | some a => simp [Value.ownBlock] at h5
    · refine ⟨_, _, rfl, ?_⟩
      rcases h5 with hb | hb
      · cases A with
        | none => simp [Value.ownBlock] at hb
        | some a =>
          rcases hown.2 with ⟨h1, _⟩ | ⟨g2, _, _, h1, _⟩
          · simp at h1
          · injection h1 with h1
            injection h1 with h1
            subst h1
            simp [Value.ownBlock] at hb
            subst hb
            exact .inl rfl
      · simp [Value.ownBlock] at hb
        subst hb
        exact .inr rfl
  obtain ⟨A', c', rfl, hA'⟩ := shape
  exact ⟨A', c', w', hrun, h2, h3, hA'⟩

theorem wp_append_vs {o : Oper} {a : Act} {K : Act → World → Prop} {Q : Exit → Act → World → Prop} (s x : Operand) (t : TypeId)
    (ho : o.op = .call { callee := .builtin .append, args := #[s, x], argTypes := #[t, t] })
    (E : TypeId) (i : TypeInfo) (z : Value) (size bytes : Nat) (ht : P.underlying t = some (.slice E)) (hi : P.info? E = some i) (hz : i.zero = some z) (hsize : i.size = size) (hby : i.bytes = bytes) (hzs : z.cells.size = size) (hsz : 0 < size)
    {base n c : Nat} {A : Option Addr} {vs : List Value} (hs : a.eval s = .slice A n c) (hown : Ov w base E size A n c vs) {ad : Addr} {m c2 : Nat} {news : List Value} (hx : a.eval x = .slice (some ad) m c2) (hl : news.length = m * size) (hnews : ∀ j u, news[j]? = some u → w.cell? (ad.add j) = some u) (h1 : ∀ u ∈ news, u.oneCell' = true)
    (h63 : n + m ≤ 9223372036854775807) (hbytes : (n + m) * bytes ≤ 140737488355328) (hbase : base ≤ w.heap.size)
    (h : ∀ A' c' w', Ov w' base E size A' (n + m) c' (vs ++ news) → w.grownBy w' (Value.slice A n c).ownBlock → (A' = A ∨ A' = some ⟨w.heap.size, 0, none⟩) → K (a.put o.dst (.slice A' (n + m) c')) w') : o.wp P a w K Q := by
  obtain ⟨A', c', w', hrun, h2, h3, h4⟩ := run_append_vs (P := P) t o.type E i z size bytes ht hi hz hsize hby hzs hsz hown ad m c2 news hl hnews h1 h63 hbytes hbase
  unfold Oper.wp
  simp [execOp, ho, resolve, invoke, builtin, hs, hx, Result.andThen]
  rw [hrun]
  exact h A' c' w' h2 h3 h4

theorem wpList_append_vs {ops : Array Oper} {rest : List Oper} {o : Oper} {a : Act} {Q : Exit → Act → World → Prop} (hgd : o.guard = none) (s x : Operand) (t : TypeId)
    (ho : o.op = .call { callee := .builtin .append, args := #[s, x], argTypes := #[t, t] })
    (E : TypeId) (i : TypeInfo) (z : Value) (size bytes : Nat) (ht : P.underlying t = some (.slice E)) (hi : P.info? E = some i) (hz : i.zero = some z) (hsize : i.size = size) (hby : i.bytes = bytes) (hzs : z.cells.size = size) (hsz : 0 < size)
    {base n c : Nat} {A : Option Addr} {vs : List Value} (hs : a.eval s = .slice A n c) (hown : Ov w base E size A n c vs) {ad : Addr} {m c2 : Nat} {news : List Value} (hx : a.eval x = .slice (some ad) m c2) (hl : news.length = m * size) (hnews : ∀ j u, news[j]? = some u → w.cell? (ad.add j) = some u) (h1 : ∀ u ∈ news, u.oneCell' = true)
    (h63 : n + m ≤ 9223372036854775807) (hbytes : (n + m) * bytes ≤ 140737488355328) (hbase : base ≤ w.heap.size)
    (h : ∀ A' c' w', Ov w' base E size A' (n + m) c' (vs ++ news) → w.grownBy w' (Value.slice A n c).ownBlock → (A' = A ∨ A' = some ⟨w.heap.size, 0, none⟩) → wpList P ops Q rest (a.put o.dst (.slice A' (n + m) c')) w') : wpList P ops Q (o :: rest) a w :=
  wpList_plain hgd fun _ hK => wp_append_vs s x t ho E i z size bytes ht hi hz hsize hby hzs hsz hs hown hx hl hnews h1 h63 hbytes hbase fun A' c' w' h2 h3 h4 => hK _ _ (h A' c' w' h2 h3 h4)
end

end Go.Proofs.Ytcgkoojegopfnaa
