/- The walk of the law FrameRows. -/
import Derived.Test.YtcinicmcfoioeaaFrameW
import Derived.Test.YtcinicmcfoioeaaFrameS
import Derived.Test.YtcinicmcfoioeaaFrameL
namespace Go.Proofs.Ytcinicmcfoioeaa
open Go.RowKit

/-- After j ends of a row. -/
def WholeJ (R : List (List UInt8)) (k j m : Nat) : Prop := m ≤ j ∧ flen R m ≤ k ∧ (m < j → k < flen R (m + 1))
theorem WholeJ.yes {R : List (List UInt8)} {k j m : Nat} (h : WholeJ R k j m) (hle : flen R (j + 1) ≤ k) : WholeJ R k (j + 1) (m + 1) ∧ m = j := by
  obtain ⟨h1, h2, h3⟩ := h
  have hm : m = j := by
    rcases Nat.lt_or_ge m j with hlt | hge
    · have := h3 hlt
      have h4 := flen_le R (m + 1) (j + 1) (by omega)
      omega
    · omega
  subst hm
  exact ⟨⟨Nat.le_refl _, hle, fun h => absurd h (by omega)⟩, rfl⟩
theorem WholeJ.no {R : List (List UInt8)} {k j m : Nat} (h : WholeJ R k j m) (hlt : k < flen R (j + 1)) : WholeJ R k (j + 1) m := by
  obtain ⟨h1, h2, h3⟩ := h
  refine ⟨by omega, h2, fun hm => ?_⟩
  rcases Nat.lt_or_ge m j with hlt' | hge
  · exact h3 hlt'
  · obtain rfl : m = j := by omega
    exact hlt

set_option maxHeartbeats 1600000 in
theorem frameRows_far (w : World) (A : Option Addr) (L : List (List UInt8)) (n cap : Nat) (hn : L.length = n) (hcap : n ≤ cap) (hm : cap ≤ maxLen) (hA : Rr w w.heap.size A L)
    (at_ : Int) (_hat : -9223372036854775808 ≤ at_ ∧ at_ ≤ 9223372036854775807) (hw : (flatP (recs (L.take 20))).length < at_) :
    Calls Try.prog 10 #[.slice A n cap, .int .i64 at_] w fun e w' => e = .returned (.bool true) ∧ Below w.heap.size w w' := by
  unfold maxLen at hm
  have HN := Lib.hid hn
  clear hn
  go_enter Try.func10, Try.ntmps10
  go_wp2_with fail
  refine (shown13_any _).mono ?_
  rintro e w1 ⟨rfl, b1⟩
  go_wp2_with fail
  refine (row_any A L n cap _ HN.out (by omega) (hA.step b1)).mono ?_
  rintro e w2 ⟨Ab, cb, Ao, co, Ae, ce, rfl, ob, oo, oe, b2⟩
  have c2 := chain b1 b2
  have hR : ∀ x ∈ recs (L.take 20), 0 < x.length ∧ x.length ≤ 300 := recs_mem _
  have hRl : (recs (L.take 20)).length ≤ 20 := Nat.le_trans (recs_le _) (by rw [List.length_take]; omega)
  clear b1 b2
  generalize recs (L.take 20) = R at *
  have hNl := flatP_le R (fun x hx => (hR x hx).2)
  have HR := Lib.hid (show ∀ x ∈ R, 0 < x.length ∧ x.length ≤ 4096 from fun x hx => ⟨(hR x hx).1, by have := (hR x hx).2; omega⟩)
  have hN2 : (flatP R).length ≤ 7000 := by omega
  clear hR hNl
  have hflR := Lib.hid (flen_all R)
  have obs := ob.bs
  have obc := ob.cap
  have oor := oo.rr
  have ooc := oo.cap
  unfold maxLen at obc ooc
  have hends : ∀ j, j < R.length → ∃ g, Ae = some ⟨g, 0, none⟩ ∧ w2.cell? ⟨g, j, none⟩ = some (.int .i64 (flen R (j + 1) : Nat)) ∧ g < w2.heap.size := by
    intro j hj
    obtain ⟨g, h1, _, h2, _, h3, _⟩ := oe.at_ (by omega)
    refine ⟨g, h1, ?_, h2⟩
    exact h3 j _ (by rw [List.getElem?_map, fends_getD R j hj]; rfl)
  have HE := Lib.hid hends
  clear ob oo oe hends
  obtain ⟨N, hN⟩ : ∃ N, (flatP R).length = N := ⟨_, rfl⟩
  have HNN := Lib.hid hN
  rw [hN] at hN2 obc hw ⊢
  clear hN
  have hkk : N ≤ N := Nat.le_refl _
  go_wp2_with fail
  go_loop [10, 11, 12] (fun a s i => ∃ j m : Nat, i = .int .i64 j ∧ j ≤ R.length ∧ a = .int .i64 m ∧ m ≤ j ∧ s = .int .i64 (flen R m : Nat) ∧ WholeJ R N j m) (fun _ _ i => R.length - (intOf i).toNat)
  case atStart => exact ⟨0, 0, rfl, by omega, rfl, by omega, rfl, ⟨Nat.le_refl _, by rw [flen_zero]; omega, fun h => absurd h (by omega)⟩⟩
  case round =>
    obtain ⟨j, m, rfl, hj, rfl, hmj, rfl, hw⟩ := hrel
    by_cases hlt : j < R.length
    · obtain ⟨g, rfl, hc, _⟩ := HE.out j hlt
      have hfl : flen R (j + 1) ≤ N := by rw [← HNN.out, ← hflR.out]; exact flen_le R _ _ (by omega)
      have hfm : flen R m ≤ N := by rw [← HNN.out, ← hflR.out]; exact flen_le R _ _ (by omega)
      have hfpos : 7 ≤ flen R (j + 1) := by rw [flen_succ R j hlt]; have := (HR.out R[j] (List.getElem_mem hlt)).1; omega
      by_cases hle : flen R (j + 1) ≤ N
      · obtain ⟨hy, hmj2⟩ := hw.yes hle
        have HY := Lib.hid hy
        have HM2 := Lib.hid hmj2
        have hm21 : m ≤ j ∧ j ≤ m := by omega
        clear hy hmj2
        generalize hz : flen R (j + 1) = z at *
        have HZ := Lib.hid hz
        clear hz
        go_wp2
        go_round
        case rel => exact ⟨j + 1, m + 1, by go_num, by omega, by go_num, by omega, by rw [show m + 1 = j + 1 by omega, HZ.out], HY.out⟩
        case measure => simp [intOf]; omega
      · exfalso; omega
    · obtain rfl : j = R.length := by omega
      have hWh : Whole R N m := ⟨hw.1, hw.2.1, hw.2.2⟩
      have hfall := Lib.hid (cut_fall R N m HR.out hWh)
      have hshort := Lib.hid (cut_short R N m HR.out hWh)
      have hfm : flen R m ≤ N := hw.2.1
      have hfall2 := Lib.hid (show fall (flatP R ++ [0, 0, 1]) = (R, N) by rw [fall_flatP R [0, 0, 1] HR.out noughts_short, HNN.out])
      have htkl := Lib.hid (show ((flatP R).take N).length = N by rw [List.length_take, HNN.out]; omega)
      have hRm := Lib.hid (show (R.take m).length = m by rw [List.length_take]; omega)
      generalize hs : flen R m = s at *
      clear hs hw hWh
      have hmax := Lib.hid (show cb ≤ maxLen by unfold maxLen; omega)
      go_wp2_with fail
      refine (all_any Ab ((flatP R).take N) _ cb _ htkl.out (by omega) hmax.out (by omega) (obs.take N)).mono ?_
      rintro e w3 ⟨L3, y3, rfl, o3, b3⟩
      rw [hfall.out] at o3 ⊢
      have o3r := o3.rr
      have c3 := chain c2 b3
      have obs3 := obs.step b3
      have oor3 := oor.step b3
      clear o3
      have e3 := (Below.refl w3.heap.size w3).alloc (Nat.le_refl _) (.cells #[] 5)
      have h3 := Ob.empty (w := w3) (base := w3.heap.size) (E := 5) (Nat.le_refl _)
      have r3' := obs3.below e3
      go_wp2_with (first
        | (at_builtin; refine app rfl (.tmp 60) (.tmp 61) rfl rfl h3 rfl HNN.out r3' (by omega) e3.size ?_; intro C4 k4 w4 o4 g4 _; simp only [Nat.zero_add, List.nil_append] at o4; have b4 : Below w3.heap.size w3 w4 := Own.grown h3 e3 g4)
        | (at_builtin; refine app rfl (.tmp 62) (.tmp 63) rfl rfl (o4.alloc _) rfl rfl (Bs.new (l := [0, 0, 1]) (Nat.lt_succ_self _) rfl) (by omega) (Nat.le_trans b4.size (by simp)) ?_; intro C5 k5 w5 o5 g5 _; have b5 : Below w3.heap.size w3 w5 := Own.grown (o4.alloc _) (b4.alloc b4.size _) g5))
      have o5c := o5.cap
      refine (all_any C5 (flatP R ++ [0, 0, 1]) _ k5 _ o5.len o5c.1 o5c.2 (by omega) o5.bs).mono ?_
      rintro e w6 ⟨L6, y6, rfl, o6, b6⟩
      rw [hfall2.out] at o6 ⊢
      have o6r := o6.rr
      have c6 := chain (chain c3 b5) b6
      have o3r6 := (o3r.step b5).step b6
      have obs6 := (obs3.step b5).step b6
      have oor6 := (oor3.step b5).step b6
      clear o6 o5 o4 o5c g4 g5 b4 b5 r3' h3 e3 b6 o3r obs3 oor3 b3
      have hmR : m ≤ co := by omega
      have hRm2 := Lib.hid hRm.out
      go_wp2_with fail
      refine (same_any L3 Ao (R.take m) (R.take m) _ y3 _ _ _ hRm.out hRm2.out (by omega) (by omega) o3r6 (oor6.take m)).mono ?_
      rintro e w7 ⟨rfl, b7⟩
      rw [beq_self_eq_true]
      have c7 := chain c6 b7
      have o6r7 := o6r.step b7
      have obs7 := obs6.step b7
      have oor7 := oor6.step b7
      clear o3r6 o6r obs6 oor6 b7
      go_wp2_with fail
      refine (same_any L6 Ao R R _ y6 _ _ _ rfl rfl (by omega) (by omega) o6r7 oor7).mono ?_
      rintro e w8 ⟨rfl, b8⟩
      rw [beq_self_eq_true]
      have c8 := chain c7 b8
      have obs8 := ((obs7.step b8).take N).cut (c := cb) htkl.out hfm (by omega)
      have hdl := Lib.hid (show (((flatP R).take N).drop s).length = N - s by rw [List.length_drop, htkl.out])
      clear o6r7 oor7 obs7 b8
      by_cases hcs : cb = s
      · subst hcs
        have hz : N - cb < 2 := by omega
        have hz2 := Lib.hid (show N = cb by omega)
        go_wp2_with fail
        refine (take_none _ _ _ _ (by omega)).mono ?_
        rintro e w9 ⟨A9, c9, rfl, o9, b9⟩
        have c10 := chain c8 b9
        go_wp2_with fail
        go_ret
        exact ⟨rfl, c10⟩
      · rw [if_neg hcs] at obs8
        have hcs2 : s < cb := by omega
        go_wp2_with fail
        refine (take_any _ (((flatP R).take N).drop s) _ _ _ hdl.out (by omega) (by omega) obs8).mono ?_
        rintro e w9 ⟨A9, c9, rfl, o9, b9⟩
        have c10 := chain c8 b9
        rw [hshort.out]
        go_wp2_with fail
        go_ret
        exact ⟨rfl, c10⟩

set_option maxHeartbeats 1600000 in
theorem frameRows_neg (w : World) (A : Option Addr) (L : List (List UInt8)) (n cap : Nat) (hn : L.length = n) (hcap : n ≤ cap) (hm : cap ≤ maxLen) (hA : Rr w w.heap.size A L)
    (at_ : Int) (_hat : -9223372036854775808 ≤ at_ ∧ at_ ≤ 9223372036854775807) (hw : at_ < 0) :
    Calls Try.prog 10 #[.slice A n cap, .int .i64 at_] w fun e w' => e = .returned (.bool true) ∧ Below w.heap.size w w' := by
  unfold maxLen at hm
  have HN := Lib.hid hn
  clear hn
  go_enter Try.func10, Try.ntmps10
  go_wp2_with fail
  refine (shown13_any _).mono ?_
  rintro e w1 ⟨rfl, b1⟩
  go_wp2_with fail
  refine (row_any A L n cap _ HN.out (by omega) (hA.step b1)).mono ?_
  rintro e w2 ⟨Ab, cb, Ao, co, Ae, ce, rfl, ob, oo, oe, b2⟩
  have c2 := chain b1 b2
  have hR : ∀ x ∈ recs (L.take 20), 0 < x.length ∧ x.length ≤ 300 := recs_mem _
  have hRl : (recs (L.take 20)).length ≤ 20 := Nat.le_trans (recs_le _) (by rw [List.length_take]; omega)
  clear b1 b2
  generalize recs (L.take 20) = R at *
  have hNl := flatP_le R (fun x hx => (hR x hx).2)
  have HR := Lib.hid (show ∀ x ∈ R, 0 < x.length ∧ x.length ≤ 4096 from fun x hx => ⟨(hR x hx).1, by have := (hR x hx).2; omega⟩)
  have hN2 : (flatP R).length ≤ 7000 := by omega
  clear hR hNl
  have hflR := Lib.hid (flen_all R)
  have obs := ob.bs
  have obc := ob.cap
  have oor := oo.rr
  have ooc := oo.cap
  unfold maxLen at obc ooc
  have hends : ∀ j, j < R.length → ∃ g, Ae = some ⟨g, 0, none⟩ ∧ w2.cell? ⟨g, j, none⟩ = some (.int .i64 (flen R (j + 1) : Nat)) ∧ g < w2.heap.size := by
    intro j hj
    obtain ⟨g, h1, _, h2, _, h3, _⟩ := oe.at_ (by omega)
    refine ⟨g, h1, ?_, h2⟩
    exact h3 j _ (by rw [List.getElem?_map, fends_getD R j hj]; rfl)
  have HE := Lib.hid hends
  clear ob oo oe hends
  obtain ⟨N, hN⟩ : ∃ N, (flatP R).length = N := ⟨_, rfl⟩
  have HNN := Lib.hid hN
  rw [hN] at hN2 obc ⊢
  clear hN
  go_wp2_with fail
  go_loop [10, 11, 12] (fun a s i => ∃ j m : Nat, i = .int .i64 j ∧ j ≤ R.length ∧ a = .int .i64 m ∧ m ≤ j ∧ s = .int .i64 (flen R m : Nat) ∧ WholeJ R 0 j m) (fun _ _ i => R.length - (intOf i).toNat)
  case atStart => exact ⟨0, 0, rfl, by omega, rfl, by omega, rfl, ⟨Nat.le_refl _, by rw [flen_zero]; omega, fun h => absurd h (by omega)⟩⟩
  case round =>
    obtain ⟨j, m, rfl, hj, rfl, hmj, rfl, hw⟩ := hrel
    by_cases hlt : j < R.length
    · obtain ⟨g, rfl, hc, _⟩ := HE.out j hlt
      have hfl : flen R (j + 1) ≤ N := by rw [← HNN.out, ← hflR.out]; exact flen_le R _ _ (by omega)
      have hfm : flen R m ≤ N := by rw [← HNN.out, ← hflR.out]; exact flen_le R _ _ (by omega)
      have hfpos : 7 ≤ flen R (j + 1) := by rw [flen_succ R j hlt]; have := (HR.out R[j] (List.getElem_mem hlt)).1; omega
      by_cases hle : flen R (j + 1) ≤ 0
      · exfalso; omega
      · have hno := Lib.hid (hw.no (by omega))
        generalize flen R (j + 1) = z at *
        go_wp2
        go_round
        case rel => exact ⟨j + 1, m, by go_num, by omega, rfl, by omega, rfl, hno.out⟩
        case measure => simp [intOf]; omega
    · obtain rfl : j = R.length := by omega
      have hWh : Whole R 0 m := ⟨hw.1, hw.2.1, hw.2.2⟩
      have hfall := Lib.hid (cut_fall R 0 m HR.out hWh)
      have hshort := Lib.hid (cut_short R 0 m HR.out hWh)
      have hfm : flen R m ≤ 0 := hw.2.1
      have hfall2 := Lib.hid (show fall (flatP R ++ [0, 0, 1]) = (R, N) by rw [fall_flatP R [0, 0, 1] HR.out noughts_short, HNN.out])
      have htkl := Lib.hid (show ((flatP R).take 0).length = 0 by rw [List.length_take, HNN.out]; omega)
      have hRm := Lib.hid (show (R.take m).length = m by rw [List.length_take]; omega)
      generalize hs : flen R m = s at *
      clear hs hw hWh
      have hmax := Lib.hid (show cb ≤ maxLen by unfold maxLen; omega)
      go_wp2_with fail
      refine (all_any Ab ((flatP R).take 0) _ cb _ htkl.out (by omega) hmax.out (by omega) (obs.take 0)).mono ?_
      rintro e w3 ⟨L3, y3, rfl, o3, b3⟩
      rw [hfall.out] at o3 ⊢
      have o3r := o3.rr
      have c3 := chain c2 b3
      have obs3 := obs.step b3
      have oor3 := oor.step b3
      clear o3
      have e3 := (Below.refl w3.heap.size w3).alloc (Nat.le_refl _) (.cells #[] 5)
      have h3 := Ob.empty (w := w3) (base := w3.heap.size) (E := 5) (Nat.le_refl _)
      have r3' := obs3.below e3
      go_wp2_with (first
        | (at_builtin; refine app rfl (.tmp 60) (.tmp 61) rfl rfl h3 rfl HNN.out r3' (by omega) e3.size ?_; intro C4 k4 w4 o4 g4 _; simp only [Nat.zero_add, List.nil_append] at o4; have b4 : Below w3.heap.size w3 w4 := Own.grown h3 e3 g4)
        | (at_builtin; refine app rfl (.tmp 62) (.tmp 63) rfl rfl (o4.alloc _) rfl rfl (Bs.new (l := [0, 0, 1]) (Nat.lt_succ_self _) rfl) (by omega) (Nat.le_trans b4.size (by simp)) ?_; intro C5 k5 w5 o5 g5 _; have b5 : Below w3.heap.size w3 w5 := Own.grown (o4.alloc _) (b4.alloc b4.size _) g5))
      have o5c := o5.cap
      refine (all_any C5 (flatP R ++ [0, 0, 1]) _ k5 _ o5.len o5c.1 o5c.2 (by omega) o5.bs).mono ?_
      rintro e w6 ⟨L6, y6, rfl, o6, b6⟩
      rw [hfall2.out] at o6 ⊢
      have o6r := o6.rr
      have c6 := chain (chain c3 b5) b6
      have o3r6 := (o3r.step b5).step b6
      have obs6 := (obs3.step b5).step b6
      have oor6 := (oor3.step b5).step b6
      clear o6 o5 o4 o5c g4 g5 b4 b5 r3' h3 e3 b6 o3r obs3 oor3 b3
      have hmR : m ≤ co := by omega
      have hRm2 := Lib.hid hRm.out
      go_wp2_with fail
      refine (same_any L3 Ao (R.take m) (R.take m) _ y3 _ _ _ hRm.out hRm2.out (by omega) (by omega) o3r6 (oor6.take m)).mono ?_
      rintro e w7 ⟨rfl, b7⟩
      rw [beq_self_eq_true]
      have c7 := chain c6 b7
      have o6r7 := o6r.step b7
      have obs7 := obs6.step b7
      have oor7 := oor6.step b7
      clear o3r6 o6r obs6 oor6 b7
      go_wp2_with fail
      refine (same_any L6 Ao R R _ y6 _ _ _ rfl rfl (by omega) (by omega) o6r7 oor7).mono ?_
      rintro e w8 ⟨rfl, b8⟩
      rw [beq_self_eq_true]
      have c8 := chain c7 b8
      have obs8 := ((obs7.step b8).take 0).cut (c := cb) htkl.out hfm (by omega)
      have hdl := Lib.hid (show (((flatP R).take 0).drop s).length = 0 - s by rw [List.length_drop, htkl.out])
      clear o6r7 oor7 obs7 b8
      obtain rfl : s = 0 := by omega
      go_wp2_with fail
      refine (take_none _ _ _ _ (by omega)).mono ?_
      rintro e w9 ⟨A9, c9, rfl, o9, b9⟩
      have c10 := chain c8 b9
      go_wp2_with fail
      go_ret
      exact ⟨rfl, c10⟩

set_option maxHeartbeats 1600000 in
theorem frameRows_in (w : World) (A : Option Addr) (L : List (List UInt8)) (n cap : Nat) (hn : L.length = n) (hcap : n ≤ cap) (hm : cap ≤ maxLen) (hA : Rr w w.heap.size A L)
    (at_ : Int) (_hat : -9223372036854775808 ≤ at_ ∧ at_ ≤ 9223372036854775807) (hw : 0 ≤ at_) (hw2 : at_ ≤ (flatP (recs (L.take 20))).length) :
    Calls Try.prog 10 #[.slice A n cap, .int .i64 at_] w fun e w' => e = .returned (.bool true) ∧ Below w.heap.size w w' := by
  unfold maxLen at hm
  have HN := Lib.hid hn
  clear hn
  go_enter Try.func10, Try.ntmps10
  go_wp2_with fail
  refine (shown13_any _).mono ?_
  rintro e w1 ⟨rfl, b1⟩
  go_wp2_with fail
  refine (row_any A L n cap _ HN.out (by omega) (hA.step b1)).mono ?_
  rintro e w2 ⟨Ab, cb, Ao, co, Ae, ce, rfl, ob, oo, oe, b2⟩
  have c2 := chain b1 b2
  have hR : ∀ x ∈ recs (L.take 20), 0 < x.length ∧ x.length ≤ 300 := recs_mem _
  have hRl : (recs (L.take 20)).length ≤ 20 := Nat.le_trans (recs_le _) (by rw [List.length_take]; omega)
  clear b1 b2
  generalize recs (L.take 20) = R at *
  have hNl := flatP_le R (fun x hx => (hR x hx).2)
  have HR := Lib.hid (show ∀ x ∈ R, 0 < x.length ∧ x.length ≤ 4096 from fun x hx => ⟨(hR x hx).1, by have := (hR x hx).2; omega⟩)
  have hN2 : (flatP R).length ≤ 7000 := by omega
  clear hR hNl
  have hflR := Lib.hid (flen_all R)
  have obs := ob.bs
  have obc := ob.cap
  have oor := oo.rr
  have ooc := oo.cap
  unfold maxLen at obc ooc
  have hends : ∀ j, j < R.length → ∃ g, Ae = some ⟨g, 0, none⟩ ∧ w2.cell? ⟨g, j, none⟩ = some (.int .i64 (flen R (j + 1) : Nat)) ∧ g < w2.heap.size := by
    intro j hj
    obtain ⟨g, h1, _, h2, _, h3, _⟩ := oe.at_ (by omega)
    refine ⟨g, h1, ?_, h2⟩
    exact h3 j _ (by rw [List.getElem?_map, fends_getD R j hj]; rfl)
  have HE := Lib.hid hends
  clear ob oo oe hends
  obtain ⟨N, hN⟩ : ∃ N, (flatP R).length = N := ⟨_, rfl⟩
  have HNN := Lib.hid hN
  rw [hN] at hN2 obc hw2 ⊢
  clear hN
  obtain ⟨k, rfl⟩ := Int.eq_ofNat_of_zero_le hw
  have hk : k ≤ N := by omega
  go_wp2_with fail
  go_loop [10, 11, 12] (fun a s i => ∃ j m : Nat, i = .int .i64 j ∧ j ≤ R.length ∧ a = .int .i64 m ∧ m ≤ j ∧ s = .int .i64 (flen R m : Nat) ∧ WholeJ R k j m) (fun _ _ i => R.length - (intOf i).toNat)
  case atStart => exact ⟨0, 0, rfl, by omega, rfl, by omega, rfl, ⟨Nat.le_refl _, by rw [flen_zero]; omega, fun h => absurd h (by omega)⟩⟩
  case round =>
    obtain ⟨j, m, rfl, hj, rfl, hmj, rfl, hw⟩ := hrel
    by_cases hlt : j < R.length
    · obtain ⟨g, rfl, hc, _⟩ := HE.out j hlt
      have hfl : flen R (j + 1) ≤ N := by rw [← HNN.out, ← hflR.out]; exact flen_le R _ _ (by omega)
      have hfm : flen R m ≤ N := by rw [← HNN.out, ← hflR.out]; exact flen_le R _ _ (by omega)
      have hfpos : 7 ≤ flen R (j + 1) := by rw [flen_succ R j hlt]; have := (HR.out R[j] (List.getElem_mem hlt)).1; omega
      by_cases hle : flen R (j + 1) ≤ k
      · obtain ⟨hy, hmj2⟩ := hw.yes hle
        have HY := Lib.hid hy
        have HM2 := Lib.hid hmj2
        have hm21 : m ≤ j ∧ j ≤ m := by omega
        clear hy hmj2
        generalize hz : flen R (j + 1) = z at *
        have HZ := Lib.hid hz
        clear hz
        go_wp2
        go_round
        case rel => exact ⟨j + 1, m + 1, by go_num, by omega, by go_num, by omega, by rw [show m + 1 = j + 1 by omega, HZ.out], HY.out⟩
        case measure => simp [intOf]; omega
      · have hno := Lib.hid (hw.no (by omega))
        generalize flen R (j + 1) = z at *
        go_wp2
        go_round
        case rel => exact ⟨j + 1, m, by go_num, by omega, rfl, by omega, rfl, hno.out⟩
        case measure => simp [intOf]; omega
    · obtain rfl : j = R.length := by omega
      have hWh : Whole R k m := ⟨hw.1, hw.2.1, hw.2.2⟩
      have hfall := Lib.hid (cut_fall R k m HR.out hWh)
      have hshort := Lib.hid (cut_short R k m HR.out hWh)
      have hfm : flen R m ≤ k := hw.2.1
      have hfall2 := Lib.hid (show fall (flatP R ++ [0, 0, 1]) = (R, N) by rw [fall_flatP R [0, 0, 1] HR.out noughts_short, HNN.out])
      have htkl := Lib.hid (show ((flatP R).take k).length = k by rw [List.length_take, HNN.out]; omega)
      have hRm := Lib.hid (show (R.take m).length = m by rw [List.length_take]; omega)
      generalize hs : flen R m = s at *
      clear hs hw hWh
      have hmax := Lib.hid (show cb ≤ maxLen by unfold maxLen; omega)
      go_wp2_with fail
      refine (all_any Ab ((flatP R).take k) _ cb _ htkl.out (by omega) hmax.out (by omega) (obs.take k)).mono ?_
      rintro e w3 ⟨L3, y3, rfl, o3, b3⟩
      rw [hfall.out] at o3 ⊢
      have o3r := o3.rr
      have c3 := chain c2 b3
      have obs3 := obs.step b3
      have oor3 := oor.step b3
      clear o3
      have e3 := (Below.refl w3.heap.size w3).alloc (Nat.le_refl _) (.cells #[] 5)
      have h3 := Ob.empty (w := w3) (base := w3.heap.size) (E := 5) (Nat.le_refl _)
      have r3' := obs3.below e3
      go_wp2_with (first
        | (at_builtin; refine app rfl (.tmp 60) (.tmp 61) rfl rfl h3 rfl HNN.out r3' (by omega) e3.size ?_; intro C4 k4 w4 o4 g4 _; simp only [Nat.zero_add, List.nil_append] at o4; have b4 : Below w3.heap.size w3 w4 := Own.grown h3 e3 g4)
        | (at_builtin; refine app rfl (.tmp 62) (.tmp 63) rfl rfl (o4.alloc _) rfl rfl (Bs.new (l := [0, 0, 1]) (Nat.lt_succ_self _) rfl) (by omega) (Nat.le_trans b4.size (by simp)) ?_; intro C5 k5 w5 o5 g5 _; have b5 : Below w3.heap.size w3 w5 := Own.grown (o4.alloc _) (b4.alloc b4.size _) g5))
      have o5c := o5.cap
      refine (all_any C5 (flatP R ++ [0, 0, 1]) _ k5 _ o5.len o5c.1 o5c.2 (by omega) o5.bs).mono ?_
      rintro e w6 ⟨L6, y6, rfl, o6, b6⟩
      rw [hfall2.out] at o6 ⊢
      have o6r := o6.rr
      have c6 := chain (chain c3 b5) b6
      have o3r6 := (o3r.step b5).step b6
      have obs6 := (obs3.step b5).step b6
      have oor6 := (oor3.step b5).step b6
      clear o6 o5 o4 o5c g4 g5 b4 b5 r3' h3 e3 b6 o3r obs3 oor3 b3
      have hmR : m ≤ co := by omega
      have hRm2 := Lib.hid hRm.out
      go_wp2_with fail
      refine (same_any L3 Ao (R.take m) (R.take m) _ y3 _ _ _ hRm.out hRm2.out (by omega) (by omega) o3r6 (oor6.take m)).mono ?_
      rintro e w7 ⟨rfl, b7⟩
      rw [beq_self_eq_true]
      have c7 := chain c6 b7
      have o6r7 := o6r.step b7
      have obs7 := obs6.step b7
      have oor7 := oor6.step b7
      clear o3r6 o6r obs6 oor6 b7
      go_wp2_with fail
      refine (same_any L6 Ao R R _ y6 _ _ _ rfl rfl (by omega) (by omega) o6r7 oor7).mono ?_
      rintro e w8 ⟨rfl, b8⟩
      rw [beq_self_eq_true]
      have c8 := chain c7 b8
      have obs8 := ((obs7.step b8).take k).cut (c := cb) htkl.out hfm (by omega)
      have hdl := Lib.hid (show (((flatP R).take k).drop s).length = k - s by rw [List.length_drop, htkl.out])
      clear o6r7 oor7 obs7 b8
      by_cases hcs : cb = s
      · subst hcs
        have hz : k - cb < 2 := by omega
        have hz2 := Lib.hid (show k = cb by omega)
        go_wp2_with fail
        refine (take_none _ _ _ _ (by omega)).mono ?_
        rintro e w9 ⟨A9, c9, rfl, o9, b9⟩
        have c10 := chain c8 b9
        go_wp2_with fail
        go_ret
        exact ⟨rfl, c10⟩
      · rw [if_neg hcs] at obs8
        have hcs2 : s < cb := by omega
        go_wp2_with fail
        refine (take_any _ (((flatP R).take k).drop s) _ _ _ hdl.out (by omega) (by omega) obs8).mono ?_
        rintro e w9 ⟨A9, c9, rfl, o9, b9⟩
        have c10 := chain c8 b9
        rw [hshort.out]
        go_wp2_with fail
        go_ret
        exact ⟨rfl, c10⟩

theorem frameRows_walk (w : World) (A : Option Addr) (L : List (List UInt8)) (n cap : Nat) (hn : L.length = n) (hcap : n ≤ cap) (hm : cap ≤ maxLen) (hA : Rr w w.heap.size A L)
    (at_ : Int) (hat : -9223372036854775808 ≤ at_ ∧ at_ ≤ 9223372036854775807) :
    Calls Try.prog 10 #[.slice A n cap, .int .i64 at_] w fun e w' => e = .returned (.bool true) ∧ Below w.heap.size w w' := by
  by_cases h1 : ((flatP (recs (L.take 20))).length : Int) < at_
  · exact frameRows_far w A L n cap hn hcap hm hA at_ hat h1
  · by_cases h2 : at_ < 0
    · exact frameRows_neg w A L n cap hn hcap hm hA at_ hat h2
    · exact frameRows_in w A L n cap hn hcap hm hA at_ hat (by omega) (by omega)
end Go.Proofs.Ytcinicmcfoioeaa
