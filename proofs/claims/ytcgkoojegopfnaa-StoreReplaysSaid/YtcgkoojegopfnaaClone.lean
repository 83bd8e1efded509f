/- The walks of slices.Clone of bytes, and of disk.Clone. -/
import Derived.Test.YtcgkoojegopfnaaRDiskA
import Derived.Lib.SliceRun
namespace Go.Proofs.Ytcgkoojegopfnaa
open Go.RowKit

theorem Dk.mono {w : World} {base base' g : Nat} {q : Option Nat} {d : Dsk} (h : Dk w base g q d) (hb : base' ≤ base) : Dk w base' g q d := by
  obtain ⟨hg, hok, A, n, c, hq, hbk, ho⟩ := h
  exact ⟨Nat.le_trans hb hg, hok, A, n, c, hq, hbk, ho.mono hb⟩

/-- A slice of the call's own with these bytes is handed back. -/
def IsCopy (w : World) (l : List UInt8) (n : Nat) (e : Ending) (w' : World) : Prop := ∃ A c, e = .returned (.slice A n c) ∧ Own w' w.heap.size A n c l ∧ Below w.heap.size w w'

set_option maxRecDepth 10000 in
set_option maxHeartbeats 800000 in
theorem cloneB_any (A : Option Addr) (l : List UInt8) (n c : Nat) (w : World) (hn : l.length = n) (hnil : A = none → c = 0) (hm : n ≤ 140737488355328) (hA : Bs w w.heap.size A l) :
    Calls Try.prog 41 #[.slice A n c] w (IsCopy w l n) := by
  have HN := Lib.hid hn
  cases A with
  | none =>
    have h0 : l = [] := by
      rcases Nat.eq_zero_or_pos l.length with h0 | h0
      · exact List.eq_nil_of_length_eq_zero h0
      · obtain ⟨b, off, he, _⟩ := hA h0
        cases he
    have hc := hnil rfl
    subst h0
    subst hc
    obtain rfl : n = 0 := hn.symm
    clear hnil hn
    have heq := Lib.run_eql_slice_nil (P := Try.prog) w 22 5 none 0 0 0 0 Try.underlying22
    go_enter Try.func41, Try.ntmps41
    go_wp2_with fail
    go_ret
    exact ⟨none, 0, rfl, Ob.nil_ _ _ _, Below.refl _ _⟩
  | some a =>
    have he := Ob.empty (w := w) (base := w.heap.size) (E := 5) (Nat.le_refl _)
    have hbe : Below w.heap.size w (w.alloc (.cells #[] 5)) := (Below.refl _ _).alloc (Nat.le_refl _) _
    have hAe := hA.step hbe
    clear hn hnil
    have heq := Lib.run_eql_slice_nil (P := Try.prog) w 22 5 (some a) n c 0 0 Try.underlying22
    go_enter Try.func41, Try.ntmps41
    go_wp2_with (at_builtin; refine app rfl (.tmp 5) (.tmp 6) rfl rfl he rfl HN.out hAe (by omega) (by simp) ?_; intro A2 ca2 w2 o2 g2 hA2; have b2 : Below w.heap.size w w2 := Own.grown he hbe g2; rw [Nat.zero_add] at o2; simp only [List.nil_append] at o2)
    go_ret
    exact ⟨A2, ca2, rfl, o2, b2⟩

theorem Own.nil_cap {w : World} {base n c : Nat} {A : Option Addr} {l : List UInt8} (h : Own w base A n c l) (hA : A = none) : c = 0 := by
  rcases h.2.2 with ⟨h1, h2⟩ | ⟨g, _, _, h1, _⟩
  · injection h1
  · subst hA
    cases h1

def IsClone (w : World) (d : Dsk) (e : Ending) (w' : World) : Prop := ∃ g q, e = .returned (.pointer (some ⟨g, 0, none⟩)) ∧ Dk w' w.heap.size g q d ∧ Below w.heap.size w w'

set_option maxRecDepth 10000 in
set_option maxHeartbeats 800000 in
theorem clone_any (base g : Nat) (q : Option Nat) (d : Dsk) (w : World) (hd : Dk w base g q d) :
    Calls Try.prog 24 #[.pointer (some ⟨g, 0, none⟩)] w (IsClone w d) := by
  obtain ⟨hg, hok, A, n, c, hq, hb, ho⟩ := hd
  have hn64 : n ≤ 65536 := by have := hok.2; have := ho.1; omega
  clear hq
  have hgl := hb.lt
  have c0 := hb.cell 0
  have c1 := hb.cell 1
  have c2 := hb.cell 2
  have c3 := hb.cell 3
  have c4 := hb.cell 4
  simp only [dCells, List.getElem?_toArray, List.getElem?_cons_zero, List.getElem?_cons_succ] at c0 c1 c2 c3 c4
  have hb1 : Below w.heap.size w (w.alloc (.cells (dCells d A n c) TD)) := (Below.refl _ _).alloc (Nat.le_refl _) _
  have o1 := ho.step hb1
  have k1 := Blk.new w TD (dCells d A n c)
  unfold dCells at hb1 o1 k1
  go_enter Try.func24, Try.ntmps24
  go_wp2_with fail
  refine (cloneB_any A d.b n c _ ho.1 (fun h => ho.nil_cap h) (by omega) o1.bs).mono ?_
  rintro e w2 ⟨A2, c2', rfl, o2, b2⟩
  have k2 := k1.below b2 (by simp)
  have f0 := k2.free 0
  have d0 := k2.cell 0
  have hs2 := b2.size
  rw [World.size_alloc] at hs2
  simp only [List.getElem?_toArray, List.getElem?_cons_zero] at d0
  go_wp2_with fail
  have k3 := k2.set 0 (.slice A2 n c2')
  have o3 := Own.setD (Ob.mono o2 (base' := w.heap.size) (by simp)) k2 0 (.slice A2 n c2')
  go_ret
  exact ⟨w.heap.size, _, rfl, ⟨Nat.le_refl _, hok, A2, n, c2', rfl, k3, o3⟩, (hb1.trans (b2.mono (by simp))).setCell (Nat.le_refl _) _⟩
end Go.Proofs.Ytcgkoojegopfnaa
