/- The walks of the document's disk: Doom, Up, Append, Cut. -/
import Derived.Test.YtcgkoojegopfnaaRDisk
namespace Go.Proofs.Ytcgkoojegopfnaa
open Go.RowKit

theorem rdoom_any (base g : Nat) (q : Option Nat) (d : Dsk) (k : Int) (w : World) (hd : Rk w base g q d) :
    Calls Try.prog 36 #[.pointer (some ⟨g, 0, none⟩), .int .i64 k] w (RDoes w base g q (dDoom d k) (.tuple #[])) := by
  obtain ⟨hg, hok, A, n, c, hq, hb, ho⟩ := hd
  have c3 := hb.cell 3
  have c4 := hb.cell 4
  have f3 := hb.free 3
  have f4 := hb.free 4
  simp only [dCells, List.getElem?_toArray, List.getElem?_cons_zero, List.getElem?_cons_succ] at c3 c4
  have hb2 := (hb.set 3 (.bool true)).set 4 (.int .i64 k)
  have ho2 := (ho.setR hb 3 (.bool true)).setR (hb.set 3 (.bool true)) 4 (.int .i64 k)
  go_enter Try.func36, Try.ntmps36
  go_wp2_with fail
  go_end0
  exact ⟨q, rfl, ⟨hg, hok.doom k, A, n, c, hq, hb2, ho2⟩, ((Touch.refl w g q).set 3 _).set 4 _, .inl rfl⟩

theorem rup_any (base g : Nat) (q : Option Nat) (d : Dsk) (w : World) (hd : Rk w base g q d) :
    Calls Try.prog 38 #[.pointer (some ⟨g, 0, none⟩)] w (RDoes w base g q (dUp d).1 (.int .i64 (dUp d).2)) := by
  obtain ⟨hg, hok, A, n, c, hq, hb, ho⟩ := hd
  have c2 := hb.cell 2
  have c3 := hb.cell 3
  have c4 := hb.cell 4
  have f2 := hb.free 2
  have f3 := hb.free 3
  have f4 := hb.free 4
  simp only [dCells, List.getElem?_toArray, List.getElem?_cons_zero, List.getElem?_cons_succ] at c2 c3 c4
  cases hdn : d.down
  · have HU := Lib.hid (show dUp d = (d, 31) by unfold dUp; rw [hdn]; rfl)
    rw [hdn] at c2
    have hd' : Rk w base g q d := ⟨hg, hok, A, n, c, hq, hb, ho⟩
    clear hdn
    go_enter Try.func38, Try.ntmps38
    go_wp2_with fail
    go_ret
    exact ⟨q, by rw [HU.out]; rfl, by rw [HU.out]; exact hd', Touch.refl _ _ _, .inl rfl⟩
  · have HU := Lib.hid (show dUp d = ({ d with down := false, doomed := false, keep := 0 }, 0) by unfold dUp; rw [hdn]; rfl)
    rw [hdn] at c2
    have hb2 := ((hb.set 2 (.bool false)).set 3 (.bool false)).set 4 (.int .i64 0)
    have ho2 := ((ho.setR hb 2 (.bool false)).setR (hb.set 2 (.bool false)) 3 (.bool false)).setR ((hb.set 2 (.bool false)).set 3 (.bool false)) 4 (.int .i64 0)
    clear hdn
    go_enter Try.func38, Try.ntmps38
    go_wp2_with fail
    go_ret
    exact ⟨q, by rw [HU.out]; rfl, by rw [HU.out]; exact ⟨hg, hok, A, n, c, hq, hb2, ho2⟩, (((Touch.refl w g q).set 2 _).set 3 _).set 4 _, .inl rfl⟩

/-- The bytes of a disk are replaced by new ones. -/
theorem Rk.put {w w' : World} {base g n c n2 c2 : Nat} {A A2 : Option Addr} {d d2 : Dsk} {u : Value} (hg : base ≤ g) (hok : d2.ok) (hb : Blk w g TR (dCells d A n c)) (hw : Below w.heap.size w w') (ho : Own w' w.heap.size A2 n2 c2 d2.b) (hbase : base ≤ w.heap.size)
    (hc : (dCells d A n c).setIfInBounds 0 u = dCells d2 A2 n2 c2) : Rk (w'.setCell ⟨g, 0, none⟩ u) base g (Value.slice A2 n2 c2).ownBlock d2 := by
  have hb1 := hb.below hw hb.lt
  have hb2 := hb1.set 0 u
  rw [hc] at hb2
  exact ⟨hg, hok, A2, n2, c2, rfl, hb2, (ho.setR hb1 0 u).mono hbase⟩
theorem moved_new {w w' : World} {A : Option Addr} {n c : Nat} {l : List UInt8} {q : Option Nat} (ho : Own w' w.heap.size A n c l) (hA : A ≠ none) : Moved w q (Value.slice A n c).ownBlock := by
  cases A with
  | none => exact absurd rfl hA
  | some a => exact .inr ⟨a.block, rfl, (ho.ov.row a.block rfl).1⟩
theorem some_of {A : Option Addr} {a b : Addr} (h : A = some a ∨ A = some b) : A ≠ none := by
  rcases h with rfl | rfl <;> simp
theorem some_of' {A B : Option Addr} {b : Addr} (hB : B ≠ none) (h : A = B ∨ A = some b) : A ≠ none := by
  rcases h with rfl | rfl
  · exact hB
  · simp

set_option maxRecDepth 10000 in
set_option maxHeartbeats 800000 in
theorem rappend_any (base g : Nat) (q : Option Nat) (d : Dsk) (X : Option Addr) (x : List UInt8) (m cx : Nat) (w : World) (hd : Rk w base g q d) (hbase : base ≤ w.heap.size) (hm : x.length = m) (hm3 : m ≤ 10000) (hx : Bs w w.heap.size X x) :
    Calls Try.prog 42 #[.pointer (some ⟨g, 0, none⟩), .slice X m cx] w (RDoes w base g q (dAppend d x).1 (.int .i64 (dAppend d x).2)) := by
  have hok2 := hd.2.1.append x
  obtain ⟨hg, hok, A, n, c, hq, hb, ho⟩ := id hd
  have hn := ho.1
  have hok64 := hok.2
  have c0 := hb.cell 0
  have c2 := hb.cell 2
  have hglt := hb.lt
  simp only [dCells, List.getElem?_toArray, List.getElem?_cons_zero, List.getElem?_cons_succ] at c0 c2
  cases hdn : d.down
  · rw [hdn] at c2
    by_cases hfull : 65536 < n + m
    · have HU := Lib.hid (show dAppend d x = (d, 20) by unfold dAppend; rw [if_neg (by simp [hdn]), if_pos (by omega)])
      have hgt : 65536 < (n : Int) + (m : Int) := by omega
      have hn64 : n ≤ 65536 := by omega
      clear hdn hn hm
      go_enter Try.func42, Try.ntmps42
      go_wp2_with fail
      go_ret
      exact ⟨q, by rw [HU.out]; rfl, by rw [HU.out]; exact hd, Touch.refl _ _ _, .inl rfl⟩
    · have HU := Lib.hid (show dAppend d x = ({ d with b := d.b ++ x }, 0) by unfold dAppend; rw [if_neg (by simp [hdn]), if_neg (by omega)])
      have hgt : ¬ 65536 < (n : Int) + (m : Int) := by omega
      have hn64 : n ≤ 65536 := by omega
      have HM := Lib.hid hm
      have HN := Lib.hid hn
      have HQ := Lib.hid hq
      have he := Ob.empty (w := w) (base := w.heap.size) (E := 5) (Nat.le_refl _)
      have hbe : Below w.heap.size w (w.alloc (.cells #[] 5)) := (Below.refl _ _).alloc (Nat.le_refl _) _
      have hAe := (show Bs (w.alloc (.cells #[] 5)) (w.alloc (.cells #[] 5)).heap.size A d.b from ho.bs.step hbe)
      clear hdn hn hm hq
      go_enter Try.func42, Try.ntmps42
      go_wp2_with (first
        | (at_builtin; refine app rfl (.tmp 19) (.tmp 23) rfl rfl he rfl HN.out hAe (by omega) (by simp) ?_; intro A2 ca2 w2 o2 g2 hA2; have b2 : Below w.heap.size w w2 := Own.grown he hbe g2; have hX2 := hx.step b2; rw [Nat.zero_add] at o2; simp only [List.nil_append] at o2)
        | (at_builtin; refine app rfl (.tmp 24) (.tmp 25) rfl rfl o2 rfl HM.out hX2 (by omega) b2.size ?_; intro A3 ca3 w3 o3 g3 hA3; have b3 : Below w.heap.size w w3 := Own.grown o2 b2 g3; have hb3 := hb.below b3 hb.lt; have d0 := hb3.cell 0; have e0 := hb3.free 0; simp only [dCells, List.getElem?_toArray, List.getElem?_cons_zero] at d0))
      go_ret
      refine ⟨(Value.slice A3 (n + m) ca3).ownBlock, by rw [HU.out]; rfl, ?_, (Touch.of_below b3).set 0 _, moved_new o3 (some_of' (some_of hA2) hA3)⟩
      rw [HU.out] at hok2 ⊢
      exact Rk.put hg hok2 hb b3 o3 hbase rfl
  · have HU := Lib.hid (show dAppend d x = (d, 30) by unfold dAppend; rw [if_pos hdn])
    rw [hdn] at c2
    clear hdn hn hm
    go_enter Try.func42, Try.ntmps42
    go_wp2_with fail
    go_ret
    exact ⟨q, by rw [HU.out]; rfl, by rw [HU.out]; exact hd, Touch.refl _ _ _, .inl rfl⟩

set_option maxRecDepth 10000 in
set_option maxHeartbeats 800000 in
theorem rcut_any (base g : Nat) (q : Option Nat) (d : Dsk) (k : Int) (w : World) (hd : Rk w base g q d) (hbase : base ≤ w.heap.size) :
    Calls Try.prog 45 #[.pointer (some ⟨g, 0, none⟩), .int .i64 k] w (RDoes w base g q (dCut d k).1 (.int .i64 (dCut d k).2)) := by
  have hok2 := hd.2.1.cut k
  obtain ⟨hg, hok, A, n, c, hq, hb, ho⟩ := id hd
  have hn := ho.1
  have HQ := Lib.hid hq
  have hok64 : n ≤ 65536 := by have := hok.2; omega
  clear hq
  have hcap := ho.cap
  unfold maxLen at hcap
  obtain ⟨hc1, hc2⟩ := hcap
  have hglt := hb.lt
  have c0 := hb.cell 0
  have c2 := hb.cell 2
  simp only [dCells, List.getElem?_toArray, List.getElem?_cons_zero, List.getElem?_cons_succ] at c0 c2
  cases hdn : d.down
  · rw [hdn] at c2
    by_cases hbad : k < 0 ∨ (n : Int) < k
    · have HU := Lib.hid (show dCut d k = (d, 1) by unfold dCut; rw [if_neg (by simp [hdn]), if_pos (by rw [hn]; exact hbad)])
      clear hdn hn
      by_cases h0 : k < 0
      · clear hbad
        go_enter Try.func45, Try.ntmps45
        go_wp2_with fail
        go_ret
        exact ⟨q, by rw [HU.out]; rfl, by rw [HU.out]; exact hd, Touch.refl _ _ _, .inl rfl⟩
      · have h1 : (n : Int) < k := by omega
        clear hbad
        go_enter Try.func45, Try.ntmps45
        go_wp2_with fail
        go_ret
        exact ⟨q, by rw [HU.out]; rfl, by rw [HU.out]; exact hd, Touch.refl _ _ _, .inl rfl⟩
    · obtain ⟨m, rfl⟩ := Int.eq_ofNat_of_zero_le (show 0 ≤ k by omega)
      have hmn : m ≤ n := by omega
      have hmc : m ≤ c := by omega
      have HU := Lib.hid (show dCut d (m : Int) = ({ d with b := d.b.take m, syn := m }, 0) by unfold dCut; rw [if_neg (by simp [hdn]), if_neg (by rw [hn]; omega)]; rfl)
      have HT := Lib.hid (show (d.b.take m).length = m by rw [List.length_take]; omega)
      have t1 : decide ((m : Int) < 0) = false := by simp
      have t2 : decide (n < m) = false := by simp; omega
      have he := Ob.empty (w := w) (base := w.heap.size) (E := 5) (Nat.le_refl _)
      have hbe : Below w.heap.size w (w.alloc (.cells #[] 5)) := (Below.refl _ _).alloc (Nat.le_refl _) _
      have hAe := (show Bs (w.alloc (.cells #[] 5)) (w.alloc (.cells #[] 5)).heap.size A (d.b.take m) from (ho.bs.take m).step hbe)
      clear hdn hn hbad
      go_enter Try.func45, Try.ntmps45
      go_wp2_with (at_builtin; refine app rfl (.tmp 21) (.tmp 27) rfl rfl he rfl HT.out hAe (by omega) (by simp) ?_; intro A2 ca2 w2 o2 g2 hA2; have b2 : Below w.heap.size w w2 := Own.grown he hbe g2; rw [Nat.zero_add] at o2; simp only [List.nil_append] at o2; have hb3 := hb.below b2 hb.lt; have d0 := hb3.cell 0; have d1 := hb3.cell 1; have e0 := hb3.free 0; have e1 := hb3.free 1; simp only [dCells, List.getElem?_toArray, List.getElem?_cons_zero, List.getElem?_cons_succ] at d0 d1)
      have hb4 := (hb3.set 0 (.slice A2 m ca2)).set 1 (.int .i64 (m : Int))
      have ho4 := (o2.setR hb3 0 (.slice A2 m ca2)).setR (hb3.set 0 (.slice A2 m ca2)) 1 (.int .i64 (m : Int))
      go_ret
      refine ⟨(Value.slice A2 m ca2).ownBlock, by rw [HU.out]; rfl, ?_, ((Touch.of_below b2).set 0 _).set 1 _, moved_new o2 (some_of hA2)⟩
      rw [HU.out] at hok2 ⊢
      exact ⟨hg, hok2, A2, m, ca2, rfl, hb4, ho4.mono hbase⟩
  · rw [hdn] at c2
    have HU := Lib.hid (show dCut d k = (d, 30) by unfold dCut; rw [if_pos hdn])
    clear hdn hn
    go_enter Try.func45, Try.ntmps45
    go_wp2_with fail
    go_ret
    exact ⟨q, by rw [HU.out]; rfl, by rw [HU.out]; exact hd, Touch.refl _ _ _, .inl rfl⟩
end Go.Proofs.Ytcgkoojegopfnaa
