/- The walk of the law VarintOnce. -/
import Derived.Test.YtaaibgbblehngaaVintS
import Derived.Test.YtaaibgbblehngaaVintV
import Derived.Deep.DeepCutAuto
namespace Go.Proofs.Ytaaibgbblehngaa
open Go.RowKit

/-- Is one of the first k bytes below 128? -/
def anyLow (t : List UInt8) (k : Nat) : Bool := (t.take k).any (fun c => decide (c.toNat < 128))

theorem anyLow_next (t : List UInt8) (k : Nat) (h : k < t.length) : anyLow t (k + 1) = (anyLow t k || decide ((t.getD k 0).toNat < 128)) := by
  unfold anyLow
  rw [List.take_succ_eq_append_getElem h, List.any_append, List.getD_eq_getElem?_getD, List.getElem?_eq_getElem h]
  simp

theorem once_err (t : List UInt8) (h : (vtake t).2.2 ≠ 0) : (vtake t).1 = 0 ∧ (vtake t).2.1 = 0 ∧ ((vtake t).2.2 = 2 ∨ (vtake t).2.2 = 3) ∧ (((vtake t).2.2 = 2) ↔ (anyLow t (min t.length 10) = false ∧ t.length < 10)) := by
  have key : (vtake t = (0, 0, 2)) ↔ (anyLow t (min t.length 10) = false ∧ t.length < 10) := by
    rw [vtake_short]
    constructor
    · rintro ⟨h1, h2⟩
      refine ⟨?_, h2⟩
      unfold anyLow
      rw [List.any_eq_false]
      intro c hc
      have := h1 c (List.mem_of_mem_take hc)
      simp; omega
    · rintro ⟨h1, h2⟩
      refine ⟨?_, h2⟩
      intro c hc
      unfold anyLow at h1
      rw [Nat.min_eq_left (by omega), List.take_length, List.any_eq_false] at h1
      have := h1 c hc
      simp at this; omega
  rcases vtake_err t with h1 | h1 | h1
  · exact absurd h1 h
  · rw [← key, h1]; simp
  · rw [← key, h1]; simp

set_option maxRecDepth 10000 in
set_option maxHeartbeats 1600000 in
theorem varintOnce_walk (w : World) (A : Option Addr) (l : List UInt8) (n cap : Nat) (hn : l.length = n) (hcap : n ≤ cap) (hm : cap ≤ maxLen) (hA : Bs w w.heap.size A l) :
    Calls Try.prog 3 #[.slice A n cap] w fun e w' => e = .returned (.bool true) ∧ Below w.heap.size w w' := by
  unfold maxLen at hm
  obtain ⟨m, hmm⟩ : ∃ m, m = min n 30 := ⟨_, rfl⟩
  have hlm : (l.take 30).length = m := by rw [List.length_take]; omega
  have HM := Lib.hid hmm
  have HN := Lib.hid hn
  have hmn : m ≤ n := by omega
  have hm30 : m ≤ 30 := by omega
  have hT := hA.take 30
  clear hn hmm
  generalize hl' : l.take 30 = t at *
  have HT := Lib.hid hlm
  clear hlm hl'
  go_enter Try.func3, Try.ntmps3
  go_wp2_with fail
  refine (shown01_any _).mono ?_
  rintro e w1 ⟨rfl, b1⟩
  have r1 := hT.step b1
  clear hT hA
  go_upto_if 12 with (fail)
  go_cut [0] (fun s wx => s = .slice A m cap ∧ wx = w1)
  case first =>
    by_cases h30 : 30 < n
    · obtain rfl : m = 30 := by have := HM.out; omega
      have h30c : 30 ≤ cap := by omega
      go_wp2_with fail
      go_meet
      exact ⟨rfl, rfl⟩
    · obtain rfl : m = n := by have := HM.out; omega
      go_wp2_with fail
      go_meet
      exact ⟨rfl, rfl⟩
  case rest =>
    obtain ⟨rfl, rfl⟩ := hcut
    go_wp2_with fail
    refine (vtake_any A t m cap _ HT.out (by omega) r1).mono ?_
    rintro e w2 ⟨rfl, rfl⟩
    by_cases hz : (vtake t).2.2 = 0
    · obtain ⟨h1, h2, h3, h4, h5, -, -, -⟩ := vtake_ok t hz
      rw [hz]
      have hi2 : (vtake t).2.1 ≤ m := by have := HT.out; omega
      have HP := Lib.hid h4
      have H64 := Lib.hid h5
      have hbl := Lib.hid (show (t.take (vtake t).2.1).length = (vtake t).2.1 by rw [List.length_take]; omega)
      have s1 := Lib.hid (r1.take (vtake t).2.1)
      clear hz h4 h5 h2 r1
      generalize (vtake t).1 = z at *
      generalize (vtake t).2.1 = i at *
      have hic : i ≤ cap := by omega
      have hb1 : decide ((1 : Int) ≤ (i : Int)) = true := by simp; omega
      have hb2 : decide ((i : Int) ≤ (m : Int)) = true := by simp; omega
      go_wp2_with fail
      have hse : (vput z == t.take i) = true := by rw [HP.out]; simp
      have hst := str_eq (vput z) (t.take i)
      refine wp_region_inv (by kernel_rfl) [.val (.bool true), .val (.bool true), .val (.int .i64 i), .val (.bool true), .val (.bool true), .val (.bool true), .val (.int .i64 i), .val (.slice A m cap), .val (.int .i64 m), .val (.bool true), .val (.bool true), .val (.bool true), .val (.int .u64 z), .bs (vput z), .val (.string (strOf (vput z))), .val (.slice A m cap), .val (.int .i64 i), .val (.slice A i cap), .val (.string (strOf (t.take i))), .val (.bool true), .val (.bool true), .val (.bool true)] (T := ?T) (by kernel_rfl) (by kernel_rfl) ?hT ?hask ?hend
      case hT =>
        intro vs
        simp only [fill, Act.put, List.setIfInBounds_toArray, List.set_cons_succ, List.set_cons_zero, Nat.reduceAdd]
        exact rfl
      case hask =>
        iterate 13 (refine askI_cons (fun vs w1 hb hd => ?_) ?_; (focus (simp only [DepI, Region.binds, SlI, List.getD_cons_zero, List.getD_cons_succ, Sl.val, Sl.bs, and_true] at hd; go_simp; exact gives_pure rfl)))
        refine askI_cons (fun vs w1 hb hd => ?_) ?_
        · simp only [DepI, Region.binds, SlI, List.getD_cons_zero, List.getD_cons_succ, Sl.val, Sl.bs, and_true] at hd
          go_simp
          refine gives_enter ((vput_any z _ H64).mono ?_)
          rintro e w2 ⟨P, c2, rfl, o2, f2⟩
          exact ⟨_, rfl, f2, P, _, c2, rfl, rfl, o2.cap.1, o2.cap.2, o2.bs⟩
        refine askI_cons (fun vs w1 hb hd => ?_) ?_
        · obtain ⟨A1, n1, c1, h1, h2, h3, h4, h5⟩ := hd.1
          have h6 := conv (c := c1) h2 h5
          clear h2 h3 h4 h5
          simp only [DepI, Region.binds, SlI, List.getD_cons_zero, List.getD_cons_succ, Sl.val, Sl.bs, and_true] at hd
          go_simp
          exact gives_pure rfl
        iterate 3 (refine askI_cons (fun vs w1 hb hd => ?_) ?_; (focus (simp only [DepI, Region.binds, SlI, List.getD_cons_zero, List.getD_cons_succ, Sl.val, Sl.bs, and_true] at hd; go_simp; exact gives_pure rfl)))
        refine askI_cons (fun vs w1 hb hd => ?_) ?_
        · have h6 := conv (c := cap) hbl.out (s1.out.below hb)
          simp only [DepI, Region.binds, SlI, List.getD_cons_zero, List.getD_cons_succ, Sl.val, Sl.bs, and_true] at hd
          go_simp
          exact gives_pure rfl
        iterate 3 (refine askI_cons (fun vs w1 hb hd => ?_) ?_; (focus (simp only [DepI, Region.binds, SlI, List.getD_cons_zero, List.getD_cons_succ, Sl.val, Sl.bs, and_true] at hd; go_simp; exact gives_pure rfl)))
        exact askI_nil
      case hend =>
        intro vs w1 hb hd
        simp only [AllI, SlI, List.getD_cons_zero, List.getD_cons_succ, Sl.val, Sl.bs, and_true, Nat.reduceAdd] at hd
        have hlast := hd.2.2.2.2.2.2.2.2.2.2.2.2.2.2.2.2.2.2.2.2.2
        clear hd
        have d2 := b1.trans (hb.mono b1.size)
        go_wp2
        go_ret
        exact ⟨by simp [hlast], d2⟩
    · obtain ⟨e1, e2, e3, e4⟩ := once_err t hz
      rw [e1, e2]
      have E4 := Lib.hid e4
      have hnz : (((vtake t).2.2 : Nat) : Int) ≠ 0 := by omega
      have E3 := Lib.hid e3
      clear e1 e2 e3 e4 hz
      generalize (vtake t).2.2 = q at *
      go_wp2_with fail
      go_loop [7, 8] (fun s k => ∃ j : Nat, k = .int .i64 j ∧ j ≤ m ∧ j ≤ 10 ∧ s = .bool (anyLow t j)) (fun _ k => 10 - (intOf k).toNat)
      case atStart => exact ⟨0, rfl, by omega, by omega, by simp [anyLow]⟩
      case round =>
        obtain ⟨j, rfl, hj, hj10, rfl⟩ := hrel
        by_cases hlt : j < m
        · by_cases h10 : j < 10
          · obtain ⟨g, off, rfl, hg, hc⟩ := r1 (by rw [HT.out]; omega)
            have ck := hc j (by rw [HT.out]; omega)
            have hnx := anyLow_next t j (by rw [HT.out]; omega)
            have hql := (t.getD j 0).toNat_lt
            clear hc r1
            generalize (t.getD j 0).toNat = y at *
            have HX := Lib.hid hnx
            clear hnx
            cases hany : anyLow t j
            · have HA := Lib.hid hany
              clear hany
              go_wp2_with fail
              go_round
              case rel => exact ⟨j + 1, by go_num, by omega, by omega, by rw [HX.out, HA.out, Bool.false_or]; simp; omega⟩
              case measure => simp [intOf]; omega
            · have HA := Lib.hid hany
              clear hany
              go_wp2_with fail
              go_round
              case rel => exact ⟨j + 1, by go_num, by omega, by omega, by rw [HX.out, HA.out]; rfl⟩
              case measure => simp [intOf]; omega
          · obtain rfl : j = 10 := by omega
            have hmin : min t.length 10 = 10 := by have := HT.out; omega
            rw [hmin] at E4
            have hm10 : ¬ m < 10 := by omega
            have hq : q = 3 := by have h2 := E4.out; have h3 := E3.out; have := HT.out; omega
            subst hq
            clear hmin hnz
            cases hany : anyLow t 10
            all_goals
              have HA := Lib.hid hany
              clear hany
              go_wp2_with fail
              go_ret
              first | exact ⟨rfl, b1⟩ | exact ⟨by simp; omega, b1⟩
        · obtain rfl : j = m := by omega
          have hmin : min t.length 10 = j := by have := HT.out; omega
          rw [hmin] at E4
          clear hmin hnz
          cases hany : anyLow t j
          · by_cases h10 : j < 10
            · have hq : q = 2 := E4.out.2 ⟨hany, by rw [HT.out]; exact h10⟩
              subst hq
              have HA := Lib.hid hany
              clear hany
              go_wp2_with fail
              go_ret
              first | exact ⟨rfl, b1⟩ | exact ⟨by simp; omega, b1⟩
            · have hq : q = 3 := by have h2 := E4.out; have h3 := E3.out; have := HT.out; omega
              subst hq
              have HA := Lib.hid hany
              clear hany
              go_wp2_with fail
              go_ret
              first | exact ⟨rfl, b1⟩ | exact ⟨by simp; omega, b1⟩
          · have hq : q = 3 := by
              have h2 := E4.out; have h3 := E3.out
              rw [hany] at h2
              rcases h3 with h3 | h3
              · exact absurd (h2.1 h3).1 (by simp)
              · exact h3
            subst hq
            have HA := Lib.hid hany
            clear hany
            go_wp2_with fail
            go_ret
            first | exact ⟨rfl, b1⟩ | exact ⟨by simp; omega, b1⟩
end Go.Proofs.Ytaaibgbblehngaa
