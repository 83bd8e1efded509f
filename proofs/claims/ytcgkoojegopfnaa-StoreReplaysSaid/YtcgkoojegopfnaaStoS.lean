/- What records change, as plain functions; the walks of slices.Clone of entries, and of store.own. -/
import Derived.Test.YtcgkoojegopfnaaEnt
import Derived.Test.YtcgkoojegopfnaaStoPut
import Derived.Test.YtcgkoojegopfnaaDisk
import Derived.Lib.SliceRun
namespace Go.Proofs.Ytcgkoojegopfnaa
open Go.RowKit
set_option linter.unusedSimpArgs false
set_option linter.unusedVariables false

def stFit (s : Stb) (r : Rcd) : Bool :=
  if r.kind = 1 then decide (s.floor ≤ r.a)
  else if r.kind = 2 then !(decide (r.a < s.term) || (r.a == s.term && s.vote != 0 && s.vote != r.b))
  else if r.kind = 3 then r.a == (s.log.length : Int) + 1
  else decide (r.a ≤ (s.log.length : Int))
def stNext (s : Stb) (r : Rcd) : Stb :=
  if r.kind = 1 then { s with floor := r.a }
  else if r.kind = 2 then { s with term := r.a, vote := r.b }
  else if r.kind = 3 then { s with log := s.log ++ [⟨r.b, r.x⟩] }
  else { s with log := s.log.take (r.a - 1).toNat }
def sStep (s : Stb) (r : Rcd) : Stb × Int := if rOk r = true then (if stFit s r = true then (stNext s r, 0) else (s, 5)) else (s, 1)

/-- A state, as a value, and in cells. -/
def stV (s : Stb) (A : Option Addr) (n c : Nat) : Value := .agg #[.int .i64 s.floor, .int .i64 s.term, .int .i64 s.vote, .slice A n c]
def stC (s : Stb) (A : Option Addr) (n c : Nat) : Array Value := #[.int .i64 s.floor, .int .i64 s.term, .int .i64 s.vote, .slice A n c]
/-- A state's log reads, in blocks of which F holds. -/
def StF (w : World) (F : Nat → Prop) (s : Stb) (A : Option Addr) (n c : Nat) : Prop := s.log.length = n ∧ n ≤ c ∧ c ≤ maxLen ∧ En w F A s.log

def IsCloneE (w : World) (F : Nat → Prop) (L : List Ent) (n : Nat) (e : Ending) (w' : World) : Prop := ∃ A c, e = .returned (.slice A n c) ∧ OwnE w' w.heap.size F A n c L ∧ Below w.heap.size w w'

set_option maxRecDepth 10000 in
set_option maxHeartbeats 800000 in
theorem cloneE_any (F : Nat → Prop) (A : Option Addr) (L : List Ent) (n c : Nat) (w : World) (hn : L.length = n) (hm : n ≤ 1000) (hA : En w F A L) :
    Calls Try.prog 57 #[.slice A n c] w (IsCloneE w F L n) := by
  have HN := Lib.hid hn
  cases A with
  | none =>
    have h0 : L = [] := by
      rcases Nat.eq_zero_or_pos L.length with h0 | h0
      · exact List.eq_nil_of_length_eq_zero h0
      · obtain ⟨b, off, Ac, cc, he, _⟩ := hA.at_ (k := 0) (List.getElem?_eq_getElem h0)
        cases he
    subst h0
    obtain rfl : n = 0 := hn.symm
    clear hn hA
    have heq := Lib.run_eql_slice_nil (P := Try.prog) w 45 TE none 0 c 0 0 Try.underlying45
    go_enter Try.func57, Try.ntmps57
    go_wp2_with fail
    go_ret
    exact ⟨none, 0, rfl, OwnE.nil_ _ _ _, Below.refl _ _⟩
  | some a =>
    have he := OwnE.empty (w := w) (base := w.heap.size) (F := fun b => F b ∧ b < w.heap.size) (Nat.le_refl _)
    have hbe : Below w.heap.size w (w.alloc (.cells #[] TE)) := (Below.refl _ _).alloc (Nat.le_refl _) _
    obtain ⟨vs, v1, v2, v3, v4⟩ := hA.cells
    have v2' := (v2.below hbe).more hbe.size
    have v3' : ∀ i x, L[i]? = some x → EnAt (w.alloc (.cells #[] TE)) (fun b => F b ∧ b < w.heap.size) vs i x := fun i x hx => ((v3 i x hx).mono (F' := fun b => F b ∧ b < w.heap.size) fun b hf hb => ⟨hf, hb⟩).keep hbe.size fun b hf hb => hbe.block b hb
    have V1 := Lib.hid (show vs.length = n * 2 by rw [v1, hn])
    have V3 := Lib.hid v3'
    have V4 := Lib.hid v4
    have HF := Lib.hid (show ∀ b, (F b ∧ b < w.heap.size) → b < (w.alloc (.cells #[] TE)).heap.size → some b ≠ (Value.slice (some ⟨w.heap.size, 0, none⟩) 0 0).ownBlock from fun b hf _ e => by
      have : b = w.heap.size := by injection e
      omega)
    clear v1 v2 v3 v3' v4 hn
    have heq := Lib.run_eql_slice_nil (P := Try.prog) w 45 TE (some a) n c 0 0 Try.underlying45
    go_enter Try.func57, Try.ntmps57
    go_wp2_with (at_builtin; refine appE rfl (.tmp 5) (.tmp 6) rfl rfl he rfl HN.out V1.out v2' V3.out V4.out (by omega) (by simp) HF.out ?_; intro A2 ca2 w2 o2 g2 hA2; have b2 : Below w.heap.size w w2 := OwnE.below he hbe g2; rw [Nat.zero_add] at o2; simp only [List.nil_append] at o2)
    go_ret
    obtain ⟨o21, vs2, o22, o23⟩ := o2
    exact ⟨A2, ca2, rfl, ⟨o21, vs2, o22, fun i x hx => (o23 i x hx).mono fun b hf _ => hf.1⟩, b2⟩

def IsStV (w : World) (F : Nat → Prop) (s : Stb) (e : Ending) (w' : World) : Prop := ∃ A n c, e = .returned (stV s A n c) ∧ OwnE w' w.heap.size F A n c s.log ∧ Below w.heap.size w w'

theorem OwnE.mono {w : World} {base base' n c : Nat} {F : Nat → Prop} {A : Option Addr} {L : List Ent} (h : OwnE w base F A n c L) (hb : base' ≤ base) : OwnE w base' F A n c L := by
  obtain ⟨h1, vs, h2, h3⟩ := h
  exact ⟨h1, vs, h2.mono hb, h3⟩
theorem OwnE.setT {w : World} {base n c g : Nat} {F : Nat → Prop} {A : Option Addr} {L : List Ent} {t : TypeId} {cs : Array Value} (h : OwnE w base F A n c L) (hb : Blk w g t cs) (ht : t ≠ TE) (hF : ¬ F g) (i : Nat) (u : Value) : OwnE (w.setCell ⟨g, i, none⟩ u) base F A n c L := by
  obtain ⟨h1, vs, h2, h3⟩ := h
  refine ⟨h1, vs, h2.keptT (grown_cell w g i u) (notT_blk hb ht), fun j x hx => (h3 j x hx).keep (by simp) fun b hf hlt => ?_⟩
  exact Below.heap_setCell w ⟨g, i, none⟩ u b (fun e => hF (by rw [show g = b from e.symm]; exact hf))

set_option maxRecDepth 10000 in
set_option maxHeartbeats 800000 in
theorem own_any (F : Nat → Prop) (s : Stb) (A : Option Addr) (n c : Nat) (w : World) (hF : ∀ b, F b → b < w.heap.size) (hn : s.log.length = n) (hm : n ≤ 1000) (hA : En w F A s.log) :
    Calls Try.prog 46 #[.agg #[.int .i64 s.floor, .int .i64 s.term, .int .i64 s.vote, .slice A n c]] w (IsStV w F s) := by
  have HN := Lib.hid hn
  have b1 := (Below.refl w.heap.size w).alloc (Nat.le_refl _) (.cells #[.int .i64 s.floor, .int .i64 s.term, .int .i64 s.vote, .slice A n c] TSt)
  have b2 := b1.alloc b1.size (.cells #[.int .i64 0, .int .i64 0, .int .i64 0, .slice none 0 0] TSt)
  have k1 := (Blk.new w TSt #[.int .i64 s.floor, .int .i64 s.term, .int .i64 s.vote, .slice A n c]).alloc (.cells #[.int .i64 0, .int .i64 0, .int .i64 0, .slice none 0 0] TSt)
  have k2 := Blk.new (w.alloc (.cells #[.int .i64 s.floor, .int .i64 s.term, .int .i64 s.vote, .slice A n c] TSt)) TSt #[.int .i64 0, .int .i64 0, .int .i64 0, .slice none 0 0]
  rw [World.size_alloc] at k2
  have hA2 := hA.step b2
  clear hn
  go_enter Try.func46, Try.ntmps46
  go_wp2_with fail
  refine (cloneE_any F A s.log n c _ HN.out hm hA2).mono ?_
  rintro e w3 ⟨A3, c3, rfl, o3, b3⟩
  have bw := b2.trans (b3.mono b2.size)
  have k13 := k1.below b3 k1.lt
  have k23 := k2.below b3 k2.lt
  have hg1 := k13.lt
  have hg2 := k23.lt
  have y0 := k13.cell 0
  have y1 := k13.cell 1
  have y2 := k13.cell 2
  have y3 := k13.cell 3
  have z3 := k13.free 3
  have q0 := k23.cell 0
  have q1 := k23.cell 1
  have q2 := k23.cell 2
  have q3 := k23.cell 3
  have p0 := k23.free 0
  have p1 := k23.free 1
  have p2 := k23.free 2
  have p3 := k23.free 3
  simp only [List.getElem?_toArray, List.getElem?_cons_zero, List.getElem?_cons_succ] at y0 y1 y2 y3 q0 q1 q2 q3
  go_wp2_with fail
  have hnF : ¬ F w.heap.size := fun h => by have := hF _ h; omega
  have hnF1 : ¬ F (w.heap.size + 1) := fun h => by have := hF _ h; omega
  have o4 := (o3.mono (base' := w.heap.size) (by simp; omega)).setT k13 (by decide) hnF 3 (.slice A3 n c3)
  have k24 := k23.far (p := ⟨w.heap.size, 3, none⟩) (by simp) (.slice A3 n c3)
  have o5 := o4.setT k24 (by decide) hnF1 0 (.int .i64 s.floor)
  have k25 := k24.set 0 (.int .i64 s.floor)
  have o6 := o5.setT k25 (by decide) hnF1 1 (.int .i64 s.term)
  have k26 := k25.set 1 (.int .i64 s.term)
  have o7 := o6.setT k26 (by decide) hnF1 2 (.int .i64 s.vote)
  have k27 := k26.set 2 (.int .i64 s.vote)
  have o8 := o7.setT k27 (by decide) hnF1 3 (.slice A3 n c3)
  exact bodyPost_ret (v := .agg #[.int .i64 s.floor, .int .i64 s.term, .int .i64 s.vote, .slice A3 n c3]) (by simp [results, Try.results46, go_sem, q0, q1, q2, q3, hg2]) rfl
    ⟨A3, n, c3, rfl, o8, ((((bw.setCell (Nat.le_refl _) _).setCell (Nat.le_succ _) _).setCell (Nat.le_succ _) _).setCell (Nat.le_succ _) _).setCell (Nat.le_succ _) _⟩
end Go.Proofs.Ytcgkoojegopfnaa
