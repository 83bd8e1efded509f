/- Facts for the law StoreSplit. -/
import Derived.Test.YtcgkoojegopfnaaRecords
import Derived.Test.YtcgkoojegopfnaaSave
import Derived.Test.YtcgkoojegopfnaaStoSame
import Derived.Test.YtcgkoojegopfnaaRegG
namespace Go.Proofs.Ytcgkoojegopfnaa
open Go.RowKit
set_option linter.unusedSimpArgs false
set_option linter.unusedVariables false

/-- The disk on which the first of the records lie. -/
def dOf (L : List Rcd) : Dsk := ⟨saveB L, (saveB L).length, false, false, 0⟩
abbrev st0 : Stb := ⟨0, 0, 0, []⟩

theorem Touch.setQ {w w' : World} {g k : Nat} (h : Touch w w' g (some k)) (i : Nat) (u : Value) : Touch w (w'.setCell ⟨k, i, none⟩ u) g (some k) :=
  ⟨h.os, h.tape, h.output, by simp; exact h.size, fun b hb h1 h2 => (Below.heap_setCell w' ⟨k, i, none⟩ u b (fun e => h2 (by rw [show b = k from e]))).trans (h.block b hb h1 h2)⟩
theorem saveB_len (L : List Rcd) (h : L.all rOk = true) : (saveB L).length ≤ L.length * 211 := by
  induction L with
  | nil => simp [saveB]
  | cons r L ih =>
    rw [List.all_cons, Bool.and_eq_true] at h
    have := ih h.2
    have h2 := (frB_ok h.1).2
    have e : saveB (r :: L) = frB r ++ saveB L := by unfold saveB; simp
    rw [e, List.length_append, List.length_cons]
    omega
theorem dSync_fine (d : Dsk) (h1 : d.down = false) (h2 : d.doomed = false) : dSync d = ({ d with syn := d.b.length }, 0) := by unfold dSync; rw [h1, h2]; rfl
theorem dAppend_fine (d : Dsk) (x : List UInt8) (h1 : d.down = false) (h2 : d.b.length + x.length ≤ 65536) : dAppend d x = ({ d with b := d.b ++ x }, 0) := by unfold dAppend; rw [h1, if_neg (by simp), if_neg (by omega)]
/-- All at once, on a new disk. -/
theorem split_all (L : List Rcd) (t : Stb) (hn : L.length ≤ 30) (ha : L.all rOk = true) (hs : steps st0 L = (t, 0)) : sSave dNew st0 L = (t, 0, dOf L) := by
  unfold sSave
  rw [if_pos ha, hs]
  simp only
  rw [if_pos trivial]
  by_cases h : L = []
  · subst h
    rw [if_pos rfl]
    injection hs with hs
    rw [hs]
    rfl
  · have hl := saveB_len L ha
    rw [if_neg h, dAppend_fine dNew _ rfl (by show 0 + _ ≤ _; omega)]
    simp only
    rw [if_pos trivial, dSync_fine _ rfl rfl]
    simp only
    rw [if_pos trivial]
    rfl
/-- One more. -/
theorem split_one (L : List Rcd) (t : Stb) (r : Rcd) (hn : L.length ≤ 30) (ha : L.all rOk = true) (hr : rOk r = true) (h : (sStep t r).2 = 0) : sSave (dOf L) t [r] = ((sStep t r).1, 0, dOf (L ++ [r])) := by
  have hl := saveB_len L ha
  have hf := (frB_ok hr).2
  have hs : steps t [r] = ((sStep t r).1, 0) := by simp [steps, h]
  have hb : saveB [r] = frB r := by simp [saveB]
  unfold sSave
  rw [if_pos (by simp [hr]), hs]
  simp only
  rw [if_pos trivial, if_neg (by simp), hb, dAppend_fine _ _ rfl (by show (saveB L).length + _ ≤ _; omega)]
  simp only
  rw [if_pos trivial, dSync_fine _ rfl rfl]
  simp only
  rw [if_pos trivial]
  unfold dOf
  rw [saveB_snoc]
/-- One that is refused: so are all. -/
theorem split_bad1 (d : Dsk) (t : Stb) (r : Rcd) (h : ¬ (rOk r = true ∧ (sStep t r).2 = 0)) : (sSave d t [r]).2.1 ≠ 0 := by
  unfold sSave
  by_cases hr : rOk r = true
  · have hs : (sStep t r).2 ≠ 0 := fun e => h ⟨hr, e⟩
    have h2 : (steps t [r]).2 = (sStep t r).2 := by simp [steps, hs]
    rw [if_pos (by simp [hr]), if_neg (by rw [h2]; exact hs)]
    exact fun e => hs (by rw [← h2]; exact e)
  · rw [if_neg (by simp [hr])]
    simp
theorem split_bad (L M : List Rcd) (t : Stb) (r : Rcd) (hs : steps st0 L = (t, 0)) (h : ¬ (rOk r = true ∧ (sStep t r).2 = 0)) : ∃ e, e ≠ 0 ∧ sSave dNew st0 (L ++ r :: M) = (st0, e, dNew) := by
  unfold sSave
  by_cases ha : (L ++ r :: M).all rOk = true
  · have hr : rOk r = true := by
      rw [List.all_eq_true] at ha
      exact ha r (by simp)
    have hs2 : (sStep t r).2 ≠ 0 := fun e => h ⟨hr, e⟩
    have hb := steps_bad st0 L M r (by rw [hs]) (by rw [hs]; exact hs2)
    rw [hs] at hb
    simp only at hb
    rw [if_pos ha, if_neg (by rw [hb]; exact hs2), hb]
    exact ⟨_, hs2, rfl⟩
  · rw [if_neg ha]
    exact ⟨1, by decide, rfl⟩

theorem SaveR.step {w0 w w' : World} {base g : Nat} {q : Option Nat} {F : Nat → Prop} {p : Stb × Int × Dsk} {e : Ending} (hb : Below w.heap.size w w') (h : SaveR w0 base g q F p e w) : SaveR w0 base g q F p e w' := by
  obtain ⟨A, n, c, q', h1, h2, h3, h4, h5⟩ := h
  exact ⟨A, n, c, q', h1, h2.step hb, h3.step hb, h4.trans (Touch.of_below hb), h5⟩
/-- The state that a save told: its blocks are those of F, or made by the save (y: from, to). -/
def SaveV (wr : World) (base g : Nat) (q : Option Nat) (F : Nat → Prop) (t : Stb) (e : Int) (d : Dsk) (y : Gh) (v : Value) (w : World) : Prop :=
  ∃ A n c q', v = .tuple #[stV t A n c, .int .i64 e] ∧ StF w (fun b => (F b ∨ (wr.heap.size ≤ b ∧ y.1 ≤ b ∧ b < y.2)) ∧ some b ≠ q') t A n c ∧ Dk w base g q' d ∧ Touch wr w g q ∧ Moved wr q q'
theorem SaveV.step {wr : World} {base g : Nat} {q : Option Nat} {F : Nat → Prop} {t : Stb} {e : Int} {d : Dsk} (y : Gh) (v : Value) (w w' : World) (hb : Below w.heap.size w w') (h : SaveV wr base g q F t e d y v w) : SaveV wr base g q F t e d y v w' := by
  obtain ⟨A, n, c, q', h1, h2, h3, h4, h5⟩ := h
  exact ⟨A, n, c, q', h1, h2.step hb, h3.step hb, h4.trans (Touch.of_below hb), h5⟩
/-- From what the save does at the world at which it is called. -/
theorem SaveV.of {wr w1 w2 : World} {base g : Nat} {q : Option Nat} {F : Nat → Prop} {t : Stb} {e : Int} {d : Dsk} {v : Value} (hb : Below wr.heap.size wr w1) (h : SaveR w1 base g q F (t, e, d) (.returned v) w2) : SaveV wr base g q F t e d (w1.heap.size, w2.heap.size) v w2 := by
  obtain ⟨A, n, c, q', h1, h2, h3, h4, h5⟩ := h
  injection h1 with h1
  exact ⟨A, n, c, q', h1, h2.mono (fun b h hlt => ⟨h.1.imp id fun h => ⟨Nat.le_trans hb.size h, h, hlt⟩, h.2⟩), h3, (Touch.of_below hb).trans h4, h5.pre hb.size⟩
/-- A new variable for a state. -/
def IsZ (wr : World) (y : Gh) (v : Value) (w : World) : Prop := ∃ k, v = .pointer (some ⟨k, 0, none⟩) ∧ wr.heap.size ≤ k ∧ (k < y.1 ∨ y.2 ≤ k) ∧ Blk w k TSt #[.int .i64 0, .int .i64 0, .int .i64 0, .slice none 0 0]
theorem IsZ.step {wr : World} (y : Gh) (v : Value) (w w' : World) (hb : Below w.heap.size w w') (h : IsZ wr y v w) : IsZ wr y v w' := by
  obtain ⟨k, h1, h2, h3, h4⟩ := h
  exact ⟨k, h1, h2, h3, h4.below hb h4.lt⟩
/-- A variable, that holds what a save told. -/
def SaveK (wr : World) (base g : Nat) (q : Option Nat) (F : Nat → Prop) (t : Stb) (d : Dsk) (u : Value) (w : World) : Prop :=
  ∃ k A n c q', u = .pointer (some ⟨k, 0, none⟩) ∧ wr.heap.size ≤ k ∧ Blk w k TSt #[.int .i64 t.floor, .int .i64 t.term, .int .i64 t.vote, .slice A n c] ∧ StF w (fun b => (F b ∨ wr.heap.size ≤ b) ∧ some b ≠ q') t A n c ∧ Dk w base g q' d ∧ Touch wr w g q ∧ Moved wr q q'
theorem SaveK.step {wr : World} {base g : Nat} {q : Option Nat} {F : Nat → Prop} {t : Stb} {d : Dsk} (u v : Value) (w w' : World) (hb : Below w.heap.size w w') (h : SaveK wr base g q F t d u w) : SaveK wr base g q F t d u w' := by
  obtain ⟨k, A, n, c, q', h1, h2, h3, h4, h5, h6, h7⟩ := h
  exact ⟨k, A, n, c, q', h1, h2, h3.below hb h3.lt, h4.step hb, h5.step hb, h6.trans (Touch.of_below hb), h7⟩
theorem Dk.not_T {w : World} {base g k : Nat} {q : Option Nat} {d : Dsk} {t : TypeId} {cs : Array Value} (h : Dk w base g q d) (hk : Blk w k t cs) (ht : t ≠ 5) : q ≠ some k := by
  obtain ⟨_, _, A, n, c, rfl, _, ho⟩ := h
  exact (Own.rowT ho hk ht).symm
/-- It is kept over the call of a save. -/
theorem IsZ.over {wr a a' : World} {y y' : Gh} {v : Value} {g : Nat} {q : Option Nat} (h : IsZ wr y v a) (hy : y' = (a.heap.size, a'.heap.size)) (ht : Touch a a' g q) (hg : g < wr.heap.size) (hq : ∀ j, q = some j → j < wr.heap.size) : IsZ wr y' v a' := by
  obtain ⟨k, h1, h2, h3, h4⟩ := h
  subst hy
  exact ⟨k, h1, h2, .inl h4.lt, h4.touch ht (by omega) (fun e => by have := hq k e.symm; omega)⟩
end Go.Proofs.Ytcgkoojegopfnaa
