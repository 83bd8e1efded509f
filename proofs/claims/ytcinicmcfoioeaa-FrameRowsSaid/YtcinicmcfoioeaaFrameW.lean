/- The walk of the laws' helper row (chapter 13). -/
import Derived.Test.YtcinicmcfoioeaaFrameP
import Derived.Test.YtcinicmcfoioeaaAppRec
namespace Go.Proofs.Ytcinicmcfoioeaa
open Go.RowKit

def RowOk (w : World) (R : List (List UInt8)) (e : Ending) (w' : World) : Prop :=
  ∃ Ab cb Ao co Ae ce, e = .returned (.tuple #[.slice Ab (flatP R).length cb, .slice Ao R.length co, .slice Ae R.length ce]) ∧ Own w' w.heap.size Ab (flatP R).length cb (flatP R) ∧
    Rw w' w.heap.size 22 0 Ao R.length co R ∧ Ov w' w.heap.size 3 1 Ae R.length ce ((fends R).map nv) ∧ Below w.heap.size w w'

section
variable {w w2 w3 : World} {Ab Ao Ae : Option Addr} {nb cb no co ne ce : Nat} {l : List UInt8} {L : List (List UInt8)} {vs : List Value}
theorem row_step1 {Ax : Option Addr} {x : List UInt8} (ob : Own w2 w.heap.size Ab nb cb l) (oo : Rw w2 w.heap.size 22 0 Ao no co L) (oe : Ov w2 w.heap.size 3 1 Ae ne ce vs) (hb : Below w.heap.size w w2) (hx : El w2 w.heap.size 0 Ax x)
    (g : w2.grownBy w3 (Value.slice Ab nb cb).ownBlock) :
    Rw w3 w.heap.size 22 0 Ao no co L ∧ Ov w3 w.heap.size 3 1 Ae ne ce vs ∧ Below w.heap.size w w3 ∧ El w3 w.heap.size 0 Ax x :=
  ⟨oo.keptT g (fun k hk => (ob.ov.row k hk).1) (ob.ov.notT (by decide)) (ob.ov.notT (by decide)), oe.keptT g (ob.ov.notT (by decide)), Own.grown ob hb g,
    hx.kept g (fun k hk => ⟨(ob.ov.row k hk).1, ob.ov.notT (by decide) k hk⟩)⟩
theorem row_step2 {o : Obj} (ob : Own w2 w.heap.size Ab nb cb l) (oo : Rw w2 w.heap.size 22 0 Ao no co L) (oe : Ov w2 w.heap.size 3 1 Ae ne ce vs) (hb : Below w.heap.size w w2)
    (g : (w2.alloc o).grownBy w3 (Value.slice Ao no co).ownBlock) :
    Own w3 w.heap.size Ab nb cb l ∧ Ov w3 w.heap.size 3 1 Ae ne ce vs ∧ Below w.heap.size w w3 := by
  have oo' := oo.step ((Below.refl w2.heap.size w2).alloc (Nat.le_refl _) o)
  exact ⟨(ob.alloc o).keptT g (oo'.notT (by decide)), (oe.alloc o).keptT g (oo'.notT (by decide)), (hb.alloc hb.size o).grown g (Nat.le_trans hb.size (by simp)) oo'.row⟩
theorem row_step3 {o : Obj} (ob : Own w2 w.heap.size Ab nb cb l) (oo : Rw w2 w.heap.size 22 0 Ao no co L) (oe : Ov w2 w.heap.size 3 1 Ae ne ce vs) (hb : Below w.heap.size w w2)
    (g : (w2.alloc o).grownBy w3 (Value.slice Ae ne ce).ownBlock) :
    Own w3 w.heap.size Ab nb cb l ∧ Rw w3 w.heap.size 22 0 Ao no co L ∧ Below w.heap.size w w3 := by
  have oe' := oe.alloc o
  exact ⟨(ob.alloc o).keptT g (oe'.notT (by decide)), (oo.step ((Below.refl w2.heap.size w2).alloc (Nat.le_refl _) o)).keptT g (fun k hk => (oe'.row k hk).1) (oe'.notT (by decide)) (oe'.notT (by decide)),
    (hb.alloc hb.size o).grown g (Nat.le_trans hb.size (by simp)) (fun k hk => (oe'.row k hk).1)⟩
end

set_option maxHeartbeats 1600000 in
theorem row_any (A : Option Addr) (L : List (List UInt8)) (n c : Nat) (w : World) (hn : L.length = n) (hm : n ≤ 9223372036854775807) (hA : Rr w w.heap.size A L) :
    Calls Try.prog 22 #[.slice A n c] w (RowOk w (recs (L.take 20))) := by
  have HN := Lib.hid hn
  clear hn
  go_enter Try.func22, Try.ntmps22
  go_wp2_with fail
  go_loopw [5, 6, 7, 8] (fun b o s i wr => ∃ (k : Nat) (Ab : Option Addr) (nb cb : Nat) (Ao : Option Addr) (no co : Nat) (Ae : Option Addr) (ce : Nat), i = .int .i64 k ∧ k ≤ n ∧ k ≤ 20 ∧ b = .slice Ab nb cb ∧ o = .slice Ao no co ∧ s = .slice Ae no ce ∧
      Own wr w.heap.size Ab nb cb (flatP (recs (L.take k))) ∧ Rw wr w.heap.size 22 0 Ao no co (recs (L.take k)) ∧ Ov wr w.heap.size 3 1 Ae no ce ((fends (recs (L.take k))).map nv) ∧ Below w.heap.size w wr) (fun _ _ _ i _ => 20 - (intOf i).toNat)
  case atStart =>
    have b1 := (Below.refl w.heap.size w).alloc (Nat.le_refl _) (.cells #[] 5)
    have b2 := b1.alloc b1.size (.cells #[] 22)
    have b3 := b2.alloc b2.size (.cells #[] 3)
    refine ⟨0, some ⟨w.heap.size, 0, none⟩, 0, 0, some ⟨w.heap.size + 1, 0, none⟩, 0, 0, some ⟨w.heap.size + 2, 0, none⟩, 0, rfl, by omega, by omega, rfl, by simp, by simp, ?_, ?_, ?_, b3⟩
    · exact (((Ob.empty (Nat.le_refl _)).alloc _).alloc _)
    · have h := (Rw.empty (w := w.alloc (.cells #[] 5)) (base := w.heap.size) (R := 22) (E := 0) b1.size).step ((Below.refl _ _).alloc (Nat.le_refl _) (.cells #[] 3))
      rw [World.size_alloc] at h
      exact h
    · have h := Ov.empty (w := (w.alloc (.cells #[] 5)).alloc (.cells #[] 22)) (base := w.heap.size) (E := 3) (size := 1) b2.size
      rw [World.size_alloc, World.size_alloc] at h
      exact h
  case round =>
    obtain ⟨k, Ab, nb, cb, Ao, no, co, Ae, ce, rfl, hk, hk2, rfl, rfl, rfl, ob, oo, oe, hb⟩ := hrel
    by_cases hlt : k < n ∧ k < 20
    · obtain ⟨hkn, hk20⟩ := hlt
      have htk := Lib.hid (show L.take (k + 1) = L.take k ++ [L.getD k []] by rw [List.take_succ_eq_append_getElem (by rw [HN.out]; omega), List.getD_eq_getElem?_getD, List.getElem?_eq_getElem (by rw [HN.out]; omega)]; rfl)
      have hA2 := id hA
      obtain ⟨g, off, rfl, hg, hc⟩ := hA2 (by rw [HN.out]; omega)
      obtain ⟨Ai, ci, x1, x2, x2', x3⟩ := hc k (by rw [HN.out]; omega)
      have x1' := (hb.cell (p := ⟨g, off + k, none⟩) hg).trans x1
      have x3' := (x3.below hb).take 300
      clear hc x1
      unfold maxLen at x2'
      have hd20 : decide ((k : Int) < 20) = true := by simp; omega
      have hxe : El wr w.heap.size 0 Ai ((L.getD k []).take 300) := El.of_bs x3' hb.size
      have hyes := recs_snoc_yes (L.take k) (L.getD k [])
      have hno := recs_snoc_no (L.take k) (L.getD k [])
      rw [← htk.out] at hyes hno
      have HYES := Lib.hid hyes
      have HNO := Lib.hid hno
      clear hyes hno
      have hRle : (recs (L.take k)).length ≤ 20 := Nat.le_trans (recs_le _) (by simp; omega)
      have hFle := flatP_le (recs (L.take k)) (fun x hx => (recs_mem _ x hx).2)
      have hnb := ob.1
      have hno1 := oo.1
      obtain ⟨m, hm1, hm2, hmc⟩ : ∃ m, ((L.getD k []).take 300).length = m ∧ m ≤ 300 ∧ m ≤ ci := ⟨_, rfl, by rw [List.length_take]; omega, by rw [List.length_take]; omega⟩
      obtain ⟨hnb2, hno2⟩ : nb ≤ 7000 ∧ no ≤ 20 := by omega
      have HM := Lib.hid hm1
      have HNB := Lib.hid hnb
      have HNO1 := Lib.hid hno1
      clear hFle hRle hnb hno1
      have hsplit : (300 < (L.getD k []).length ∧ m = 300) ∨ ((L.getD k []).length ≤ 300 ∧ m = (L.getD k []).length) := by rw [List.length_take] at hm1; omega
      clear hm1
      generalize hx' : (L.getD k []).take 300 = x' at *
      clear hx'
      generalize (L.getD k []).length = xl at *
      rcases hsplit with ⟨h300, rfl⟩ | ⟨h300, rfl⟩
      all_goals
        go_wp2_with fail
        refine (put_any Ai x' _ ci _ HM.out (by omega) (x3'.more hb.size)).mono ?_
        rintro e w1 ⟨P1, p1, rfl, o1, d1⟩
        have ob1 := ob.step d1
        have oo1 := oo.step d1
        have oe1 := oe.step d1
        have hb1 := hb.trans (d1.mono hb.size)
        have hx1 := hxe.step d1
        clear ob oo oe hb hxe x3'
        by_cases hpos : 0 < x'.length
        · have hfp := fp_ok x' ⟨hpos, by rw [HM.out]; omega⟩
          have HY := Lib.hid (HYES.out hpos)
          have hfpl := Lib.hid (show (fput x').length = (fp x').1.length by rw [hfp])
          have o1b := o1.bs
          rw [hfp] at o1b ⊢
          have hfl : (fput x').length ≤ 306 := by rw [fput_length, HM.out]; omega
          have HX := Lib.hid (show recs (L.take (k + 1)) = recs (L.take k) ++ [x'] from HY.out)
          have hmax := Lib.hid (show ci ≤ maxLen by unfold maxLen; omega)
          clear o1 hpos hfp HYES HNO HY hfpl
          generalize hq : fput x' = q at *
          have HFL := Lib.hid (show flatP (recs (L.take k) ++ [x']) = flatP (recs (L.take k)) ++ q by rw [flatP_snoc, hq])
          have HFE := Lib.hid (show (fends (recs (L.take k) ++ [x'])).map nv = (fends (recs (L.take k))).map nv ++ [nv (nb + q.length)] by rw [fends_snoc, List.map_append, HFL.out, List.length_append, HNB.out]; rfl)
          clear hq
          go_wp2_with (first
            | (at_builtin; refine app rfl (.tmp 41) (.tmp 42) rfl rfl ob1 rfl rfl o1b (by omega) hb1.size ?_; intro A2 c2 w2 ob2 g2 _; obtain ⟨oo2, oe2, hb2, hx2⟩ := row_step1 ob1 oo1 oe1 hb1 hx1 g2)
            | (at_builtin; refine appRecE (E := 0) (by decide) rfl (.tmp 44) (.tmp 46) rfl rfl oo2 rfl hx2 HM.out hmc hmax.out (by omega) hb2.size ?_; intro A3 c3 w3 oo3 g3; obtain ⟨ob3, oe3, hb3⟩ := row_step2 ob2 oo2 oe2 hb2 g3)
            | (at_builtin; refine appInt (v := nb + q.length) rfl (.tmp 48) (.tmp 51) rfl (by omega) rfl oe3 rfl (by omega) hb3.size ?_; intro A4 c4 w4 oe4 g4; obtain ⟨ob4, oo4, hb4⟩ := row_step3 ob3 oo3 oe3 hb3 g4))
          go_roundw
          case rel => exact ⟨k + 1, A2, nb + q.length, c2, A3, no + 1, c3, A4, c4, by go_num, by omega, by omega, rfl, rfl, rfl, by rw [HX.out, HFL.out]; exact ob4, by rw [HX.out]; exact oo4, by rw [HX.out, HFE.out]; exact oe4, hb4⟩
          case measure => simp [intOf]; omega
        · have hfp : fp x' = ([], 4) := by unfold fp; rw [if_pos (by omega)]
          rw [hfp]
          have HN2 := Lib.hid (HNO.out hpos)
          clear hpos hfp
          go_wp2_with fail
          go_roundw
          case rel => exact ⟨k + 1, Ab, nb, cb, Ao, no, co, Ae, ce, by go_num, by omega, by omega, rfl, rfl, rfl, by rw [HN2.out]; exact ob1, by rw [HN2.out]; exact oo1, by rw [HN2.out]; exact oe1, hb1⟩
          case measure => simp [intOf]; omega
    · have htk : L.take k = L.take 20 := by
        by_cases h20 : k = 20
        · rw [h20]
        · rw [List.take_of_length_le (by rw [HN.out]; omega), List.take_of_length_le (by rw [HN.out]; omega)]
      rw [htk] at ob oo oe
      have l1 := Lib.hid ob.1
      have l2 := Lib.hid oo.1
      clear htk
      by_cases hkn : k < n
      · have hd20 : decide ((k : Int) < 20) = false := by simp; omega
        clear hlt
        go_wp2_with fail
        go_ret3
        exact ⟨Ab, cb, Ao, co, Ae, ce, by rw [l1.out, l2.out]; rfl, by rw [l1.out]; exact ob, by rw [l2.out]; exact oo, by rw [l2.out]; exact oe, hb⟩
      · clear hlt
        have hd20 : decide ((k : Int) < (n : Int)) = false := by simp; omega
        go_wp2_with fail
        go_ret3
        exact ⟨Ab, cb, Ao, co, Ae, ce, by rw [l1.out, l2.out]; rfl, by rw [l1.out]; exact ob, by rw [l2.out]; exact oo, by rw [l2.out]; exact oe, hb⟩
end Go.Proofs.Ytcinicmcfoioeaa
