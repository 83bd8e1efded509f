/- The walk of store.Take. -/
import Derived.Test.YtcgkoojegopfnaaStoTake
namespace Go.Proofs.Ytcgkoojegopfnaa
open Go.RowKit
set_option linter.unusedSimpArgs false
set_option linter.unusedVariables false

theorem wrapN_bd (n : Nat) : -9223372036854775808 ≤ wrapN n ∧ wrapN n ≤ 9223372036854775807 := by
  unfold wrapN
  rw [IntKind.wrap_i64]
  omega
theorem rParse_bd {b : List UInt8} {r : Rcd} (h : rParse b = some r) : (-9223372036854775808 ≤ r.a ∧ r.a ≤ 9223372036854775807) ∧ (-9223372036854775808 ≤ r.b ∧ r.b ≤ 9223372036854775807) ∧ r.x.length ≤ b.length := by
  cases b with
  | nil => cases h
  | cons k t =>
    rw [rParse_cons] at h
    split at h
    · split at h
      · split at h
        · injection h with h
          subst h
          exact ⟨wrapN_bd _, wrapN_bd _, by simp; omega⟩
        · cases h
      · injection h with h
        subst h
        exact ⟨wrapN_bd _, ⟨by show (-9223372036854775808 : Int) ≤ 0; decide, by show (0 : Int) ≤ 9223372036854775807; decide⟩, by simp; omega⟩
    · cases h

/-- What Take hands back. -/
def TakeR (w : World) (b : List UInt8) (e : Ending) (w' : World) : Prop :=
  ∃ (X : Option Addr) (m c : Nat), e = .returned (.tuple #[recV (rTake b).1 X m c, .int .i64 (rTake b).2]) ∧ Own w' w.heap.size X m c (rTake b).1.x ∧ Below w.heap.size w w'
theorem take_no {w w' : World} {b : List UInt8} (h : rTake b = (r0, 3)) (hb : Below w.heap.size w w') : TakeR w b (.returned (.tuple #[.agg #[.int .i64 0, .int .i64 0, .int .i64 0, .slice none 0 0], .int .i64 3])) w' := by
  refine ⟨none, 0, 0, ?_, ?_, hb⟩
  · rw [h]; rfl
  · rw [h]; exact Ob.nil_ _ _ _

set_option maxRecDepth 100000 in
set_option maxHeartbeats 1600000 in
theorem stake_any (A : Option Addr) (b : List UInt8) (n c : Nat) (w : World) (hn : b.length = n) (hnc : n ≤ c) (hm : n ≤ 1000000) (hA : Bs w w.heap.size A b) :
    Calls Try.prog 32 #[.slice A n c] w (TakeR w b) := by
  have HN := Lib.hid hn
  have ba := (Below.refl w.heap.size w).alloc (Nat.le_refl _) (.cells zRec TRec)
  have kz := Blk.new w TRec zRec
  have hAa := hA.step ba
  unfold zRec at ba kz hAa
  clear hn
  go_enter Try.func32, Try.ntmps32
  go_wp2_with fail
  refine (sparse_any A b n c _ HN.out hnc hm hAa).mono ?_
  rintro e w1 ⟨r, ok, X, m, cx, rfl, oX, bX, hcase⟩
  have b1 := ba.trans (bX.mono (by simp))
  have kz1 := kz.below bX kz.lt
  have y0 := kz1.cell 0
  have y1 := kz1.cell 1
  have y2 := kz1.cell 2
  have y3 := kz1.cell 3
  have z0 := kz1.free 0
  have z1 := kz1.free 1
  have z2 := kz1.free 2
  have z3 := kz1.free 3
  have hgl := kz1.lt
  simp only [List.getElem?_toArray, List.getElem?_cons_zero, List.getElem?_cons_succ] at y0 y1 y2 y3
  unfold recV
  clear hAa
  cases ok
  · have HT := Lib.hid (show rTake b = (r0, 3) by
      rcases hcase with ⟨h, _⟩ | ⟨_, h, _⟩
      · cases h
      · unfold rTake; rw [h])
    clear hcase
    go_wp2_with fail
    exact bodyPost_ret (v := .tuple #[.agg #[.int .i64 0, .int .i64 0, .int .i64 0, .slice none 0 0], .int .i64 3]) (by simp [results, Try.results32, go_sem, y0, y1, y2, y3, hgl]) rfl (take_no HT.out (by
      have bs := (((b1.setCell (p := ⟨w.heap.size, 0, none⟩) (Nat.le_refl _) (.int .i64 0)).setCell (p := ⟨w.heap.size, 1, none⟩) (Nat.le_refl _) (.int .i64 0)).setCell (p := ⟨w.heap.size, 2, none⟩) (Nat.le_refl _) (.int .i64 0)).setCell (p := ⟨w.heap.size, 3, none⟩) (Nat.le_refl _) (.slice none 0 0)
      exact bs.alloc bs.size _))
  · have hp : rParse b = some r := by
      rcases hcase with ⟨_, h⟩ | ⟨h, _, _⟩
      · exact h
      · cases h
    obtain ⟨ha, hb', hxl⟩ := rParse_bd hp
    have hmx : r.x.length = m := oX.1
    have hmm : m ≤ 1000000 := by have := HN.out; omega
    have HMX := Lib.hid hmx
    have HP := Lib.hid hp
    have ba2 := (Below.refl w1.heap.size w1).alloc (Nat.le_refl _) (.cells #[.int .i64 r.kind, .int .i64 r.a, .int .i64 r.b, .slice X m cx] TRec)
    have oX2 := oX.step ba2
    have kr := Blk.new w1 TRec #[.int .i64 r.kind, .int .i64 r.a, .int .i64 r.b, .slice X m cx]
    have b2 := b1.trans (ba2.mono b1.size)
    have hA2 := (hA.below b2).more b2.size
    have kz2 := kz1.below ba2 kz1.lt
    clear hcase hp hmx hxl kz1 y0 y1 y2 y3 z0 z1 z2 z3
    go_wp2_with fail
    refine (sput_any r X m cx _ HMX.out hmm oX2.bs ha hb').mono ?_
    rintro e w3 ⟨P, np, cp, rfl, oP, bP⟩
    have b3 := b2.trans (bP.mono b2.size)
    have kz3 := kz2.below bP kz2.lt
    have kr3 := kr.below bP kr.lt
    have oX3 := oX2.step bP
    have hA3 := hA2.step bP
    have hgl3 := kz3.lt
    have hrl3 := kr3.lt
    have y0 := kz3.cell 0
    have y1 := kz3.cell 1
    have y2 := kz3.cell 2
    have y3 := kz3.cell 3
    have z0 := kz3.free 0
    have z1 := kz3.free 1
    have z2 := kz3.free 2
    have z3 := kz3.free 3
    have p0 := kr3.cell 0
    have p1 := kr3.cell 1
    have p2 := kr3.cell 2
    have p3 := kr3.cell 3
    simp only [List.getElem?_toArray, List.getElem?_cons_zero, List.getElem?_cons_succ] at y0 y1 y2 y3 p0 p1 p2 p3
    have fin : ∀ w4, Below w.heap.size w w4 → Below w.heap.size w ((((w4.setCell ⟨w.heap.size, 0, none⟩ (.int .i64 0)).setCell ⟨w.heap.size, 1, none⟩ (.int .i64 0)).setCell ⟨w.heap.size, 2, none⟩ (.int .i64 0)).setCell ⟨w.heap.size, 3, none⟩ (.slice none 0 0)) := fun w4 h => (((h.setCell (Nat.le_refl _) _).setCell (Nat.le_refl _) _).setCell (Nat.le_refl _) _).setCell (Nat.le_refl _) _
    cases hro : rOk r
    · have HR := Lib.hid (show rPut r = ([], 1) by unfold rPut; rw [hro]; rfl)
      have HT := Lib.hid (show rTake b = (r0, 3) by unfold rTake; rw [HP.out]; simp only; rw [if_neg (by rw [hro]; simp)])
      have FIN := Lib.hid fin
      rw [HR.out]
      clear hro fin
      go_wp2_with fail
      exact bodyPost_ret (v := .tuple #[.agg #[.int .i64 0, .int .i64 0, .int .i64 0, .slice none 0 0], .int .i64 3]) (by simp [results, Try.results32, go_sem, y0, y1, y2, y3, hgl3]) rfl (take_no HT.out (FIN.out _ b3))
    · have hrp : rPut r = (rBytes r, 0) := by unfold rPut; rw [hro]; rfl
      have HR := Lib.hid hrp
      rw [hrp] at oP ⊢
      have FIN := Lib.hid fin
      have HRO := Lib.hid hro
      clear hrp hro fin
      go_wp2_with fail
      refine (beq_any P A (rBytes r) b np cp n c _ oP.1 HN.out oP.bs hA3).mono ?_
      rintro e w' ⟨rfl, rfl⟩
      cases heq : rBytes r == b
      · have HT := Lib.hid (show rTake b = (r0, 3) by
          unfold rTake; rw [HP.out]; simp only; rw [if_neg]
          rintro ⟨_, h⟩
          rw [h] at heq
          simp at heq)
        clear heq
        go_wp2_with fail
        exact bodyPost_ret (v := .tuple #[.agg #[.int .i64 0, .int .i64 0, .int .i64 0, .slice none 0 0], .int .i64 3]) (by simp [results, Try.results32, go_sem, y0, y1, y2, y3, hgl3]) rfl (take_no HT.out (FIN.out _ b3))
      · have HT := Lib.hid (show rTake b = (r, 0) by
          unfold rTake; rw [HP.out]; simp only; rw [if_pos ⟨HRO.out, by simpa using heq⟩])
        have o1 := Own.setT (Ob.mono (base' := w.heap.size) oX3 (by simp)) kz3 (by decide) 0 (.int .i64 r.kind)
        have k1 := kz3.set 0 (.int .i64 r.kind)
        have o2 := Own.setT o1 k1 (by decide) 1 (.int .i64 r.a)
        have k2 := k1.set 1 (.int .i64 r.a)
        have o3 := Own.setT o2 k2 (by decide) 2 (.int .i64 r.b)
        have k3 := k2.set 2 (.int .i64 r.b)
        have o4 := Own.setT o3 k3 (by decide) 3 (.slice X m cx)
        have fin2 := (((b3.setCell (p := ⟨w.heap.size, 0, none⟩) (Nat.le_refl _) (.int .i64 r.kind)).setCell (p := ⟨w.heap.size, 1, none⟩) (Nat.le_refl _) (.int .i64 r.a)).setCell (p := ⟨w.heap.size, 2, none⟩) (Nat.le_refl _) (.int .i64 r.b)).setCell (p := ⟨w.heap.size, 3, none⟩) (Nat.le_refl _) (.slice X m cx)
        clear heq o1 o2 o3 k1 k2 k3
        go_wp2_with fail
        refine bodyPost_ret (v := .tuple #[.agg #[.int .i64 r.kind, .int .i64 r.a, .int .i64 r.b, .slice X m cx], .int .i64 0]) (by simp [results, Try.results32, go_sem, y0, y1, y2, y3, hgl3]) rfl ⟨X, m, cx, ?_, ?_, fin2⟩
        · rw [HT.out]; rfl
        · rw [HT.out]; exact o4
end Go.Proofs.Ytcgkoojegopfnaa
