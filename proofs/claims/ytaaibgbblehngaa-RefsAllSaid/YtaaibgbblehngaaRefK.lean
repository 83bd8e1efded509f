/- The walks of the reference's With, Without, Freed, Ints, Same, SameAll (chapter 06). -/
import Derived.Test.YtaaibgbblehngaaRefJ
import Derived.Test.YtaaibgbblehngaaReg
import Derived.BigQuiet
import Derived.Deep.QuietTactic
namespace Go.Proofs.Ytaaibgbblehngaa
open Go.RowKit

theorem usd_with (L : List Snp) (l : List Int) : dst (L ++ [⟨0, 0, l, false, ⟨#[]⟩⟩]) = (usd (fun c => cnt L c + occ l c)).length := by
  unfold dst
  congr 1
  unfold usd
  exact whr_congr 65 fun c _ _ => by rw [cnt_append, cnt_one]

set_option maxRecDepth 10000 in
set_option maxHeartbeats 800000 in
theorem rwith_any (A : Option Addr) (L : List Snp) (n cap : Nat) (Ac : Option Addr) (l : List Int) (m cc : Nat) (w : World) (hn : L.length = n) (hf : Hid (Few (L ++ [⟨0, 0, l, false, ⟨#[]⟩⟩]))) (hA : Sn w w.heap.size A L) (hm : l.length = m) (hmc : m ≤ cc) (hcm : cc ≤ maxLen) (hl : Is w w.heap.size Ac l) :
    Calls Try.prog 38 #[.slice A n cap, .slice Ac m cc] w fun e w' => e = .returned (.int .i64 ((usd (fun c => cnt L c + occ l c)).length : Nat)) ∧ Below w.heap.size w w' := by
  have HN := Lib.hid hn
  have HM := Lib.hid hm
  have hn100 : n ≤ 100 := by have := hf.out.1; rw [List.length_append, hn] at this; omega
  clear hn hm
  have hz : OwnS (w.alloc (.cells #[] TS)) w.heap.size w.heap.size (some ⟨w.heap.size, 0, none⟩) 0 0 [] := OwnS.empty (Nat.le_refl _)
  have dz : Below w.heap.size w (w.alloc (.cells #[] TS)) := (Below.refl _ _).alloc (Nat.le_refl _) _
  obtain ⟨vs, vl, vr, vi, vo⟩ := (hA.below dz).ed (Nat.le_refl _) dz.size
  rw [HN.out] at vl
  have VL := Lib.hid vl
  have VI := Lib.hid vi
  have VO := Lib.hid vo
  have HU := Lib.hid (usd_with L l)
  clear vl vi vo
  unfold TS at hz dz vr
  go_enter Try.func38, Try.ntmps38
  go_wp2_with (first
    | (at_builtin; refine appSnaps rfl (.tmp 5) (.tmp 6) rfl rfl hz rfl HN.out VL.out vr VI.out VO.out (by omega) dz.size (Nat.le_refl _) ?_; intro P1 q1 p1 ow1 g1; simp only [Nat.zero_add, List.nil_append] at ow1; have e1 : Below w.heap.size w p1 := OwnS.below hz dz g1; have hed := Ed.of_rd (E := TI) (hl.below e1) e1.size)
    | (at_builtin; refine appSnap rfl (.tmp 7) (.tmp 10) rfl ⟨0, 0, l, false, ⟨#[]⟩⟩ rfl ow1 rfl rfl rfl rfl HM.out rfl rfl hmc hcm hed (by omega) e1.size (Nat.le_refl _) ?_; intro P2 q2 p2 ow2 g2; have e2 : Below w.heap.size w p2 := OwnS.below (ow1.step ((Below.refl _ _).alloc (Nat.le_refl _) _)) (e1.alloc e1.size _) g2))
  refine (rdistinct_any P2 _ (n + 1) q2 _ ow2.1 hf ow2.sn).mono ?_
  rintro e w3 ⟨rfl, rfl⟩
  rw [HU.out]
  go_wp2_with fail
  go_ret
  exact ⟨rfl, e2⟩

set_option maxRecDepth 10000 in
set_option maxHeartbeats 1600000 in
theorem rwithout_any (A : Option Addr) (L : List Snp) (n c : Nat) (id : Int) (w : World) (hn : L.length = n) (hf : Hid (Few L)) (hA : Sn w w.heap.size A L) :
    Calls Try.prog 35 #[.slice A n c, .int .i64 id] w (IsSnaps w w.heap.size (wo L id)) := by
  have HN := Lib.hid hn
  have hnb : n ≤ 100 := by have := hf.out.1; omega
  clear hn
  go_enter Try.func35, Try.ntmps35
  go_wp2_with fail
  go_loopw [5, 6] (fun l i wr => ∃ (k m : Nat) (O : Option Addr) (oc : Nat), i = .int .i64 k ∧ k ≤ n ∧ l = .slice O m oc ∧ m ≤ k ∧ OwnS wr w.heap.size w.heap.size O m oc (wo (L.take k) id) ∧ Below w.heap.size w wr) (fun _ i _ => n - (intOf i).toNat)
  case atStart => exact ⟨0, 0, some ⟨w.heap.size, 0, none⟩, 0, rfl, by omega, rfl, by omega, OwnS.empty (Nat.le_refl _), (Below.refl _ _).alloc (Nat.le_refl _) _⟩
  case round =>
    obtain ⟨k, m, O, oc, rfl, hk, rfl, hm, ho, hb⟩ := hrel
    by_cases hlt : k < n
    · have hx : L[k]? = some (L[k]'(by rw [HN.out]; exact hlt)) := List.getElem?_eq_getElem _
      obtain ⟨b, off, Ac, cc, rfl, hbB, c0, c1, c2, c3, c4, hcc, hcm, hi⟩ := (hA.below hb).at_ hx
      have HTK := Lib.hid (wo_take L id k hx)
      clear hx
      generalize L[k]'(by rw [HN.out]; exact hlt) = x at *
      by_cases hid : x.id = id
      · have hne : (x.id != id) = false := by simp [hid]
        have HS := Lib.hid (show wo (L.take (k + 1)) id = wo (L.take k) id by rw [HTK.out, hne]; simp)
        clear hid
        go_wp2_with fail
        go_roundw
        case rel => exact ⟨k + 1, m, O, oc, by go_num, by omega, rfl, by omega, by rw [HS.out]; exact ho, hb⟩
        case measure => simp [intOf]; omega
      · have hne : (x.id != id) = true := by simp [hid]
        have HS := Lib.hid (show wo (L.take (k + 1)) id = wo (L.take k) id ++ [x] by rw [HTK.out, hne]; simp)
        clear hid
        have hed := Ed.of_rd (E := TI) hi hb.size
        go_wp2_with (at_builtin; refine appSnap rfl (.tmp 21) (.tmp 26) rfl x rfl ho rfl rfl rfl rfl rfl rfl rfl hcc hcm hed (by omega) hb.size (Nat.le_refl _) ?_; intro A5 c5 w5 o5 g5; have b5 : Below w.heap.size w w5 := OwnS.below (ho.step ((Below.refl _ _).alloc (Nat.le_refl _) _)) (hb.alloc hb.size _) g5)
        go_roundw
        case rel => exact ⟨k + 1, m + 1, A5, c5, by go_num, by omega, rfl, by omega, by rw [HS.out]; exact o5, b5⟩
        case measure => simp [intOf]; omega
    · obtain rfl : k = n := by omega
      have hall : L.take k = L := List.take_of_length_le (by rw [HN.out]; omega)
      rw [hall] at ho
      clear hall hlt
      go_wp2_with fail
      go_ret
      exact ⟨O, m, oc, rfl, ho, hb⟩

set_option maxRecDepth 10000 in
set_option maxHeartbeats 1600000 in
theorem rfreed_any (A : Option Addr) (L : List Snp) (n c : Nat) (id : Int) (w : World) (hn : L.length = n) (hf : Hid (Few L)) (hA : Sn w w.heap.size A L) :
    Calls Try.prog 33 #[.slice A n c, .int .i64 id] w (IsRow w (frd L id)) := by
  have HN := Lib.hid hn
  clear hn
  have HFW := Lib.hid (hf.out.wo id)
  go_enter Try.func33, Try.ntmps33
  go_wp2_with fail
  go_loopw [5, 6] (fun l i wr => ∃ (k m : Nat) (P : Option Addr) (q : Nat), i = .int .i64 k ∧ 1 ≤ k ∧ k ≤ 65 ∧ l = .slice P m q ∧ m ≤ k ∧ Ov wr w.heap.size TI 1 P m q ((whr (fun c => decide (0 < cnt L c) && cnt (wo L id) c == 0) k).map iv) ∧ Below w.heap.size w wr) (fun _ i _ => 65 - (intOf i).toNat)
  case atStart => exact ⟨1, 0, some ⟨w.heap.size, 0, none⟩, 0, rfl, by omega, by omega, rfl, by omega, by rw [whr_one]; exact Ov.empty (Nat.le_refl _), (Below.refl _ _).alloc (Nat.le_refl _) _⟩
  case round =>
    obtain ⟨k, m, P, q, rfl, hk1, hk, rfl, hm, ho, hb⟩ := hrel
    by_cases hlt : k ≤ 64
    · have hs := whr_succ (fun c => decide (0 < cnt L c) && cnt (wo L id) c == 0) k
      have hA1 := (hA.below hb).more hb.size
      by_cases hp : 0 < cnt L k
      · have t1 : decide ((0 : Int) < ((cnt L k : Nat) : Int)) = true := by simp; omega
        have hs2 : whr (fun c => decide (0 < cnt L c) && cnt (wo L id) c == 0) (k + 1) = whr (fun c => decide (0 < cnt L c) && cnt (wo L id) c == 0) k ++ if cnt (wo L id) k = 0 then [((k : Nat) : Int)] else [] := by
          rw [hs]
          congr 1
          simp [hp, hk1]
        have HS := Lib.hid hs2
        clear hs hs2
        go_wp2_with fail
        refine (rcount_any A L n c k _ HN.out hf hk1 hA1).mono ?_
        rintro e w3 ⟨rfl, rfl⟩
        go_wp2_with fail
        refine (rwithout_any A L n c id _ HN.out hf hA1).mono ?_
        rintro e w4 ⟨O, m4, oc, rfl, o4, f4⟩
        have b4 := hb.trans (f4.mono hb.size)
        have ho4 := ho.step f4
        go_wp2_with fail
        refine (rcount_any O (wo L id) m4 oc k _ o4.1 HFW hk1 o4.sn).mono ?_
        rintro e w5 ⟨rfl, rfl⟩
        clear o4 f4 hA1 ho hb
        generalize cnt L k = y at *
        by_cases hz : cnt (wo L id) k = 0
        · have HS2 := Lib.hid (HS.out.trans (by rw [if_pos hz]))
          have t2 : (((cnt (wo L id) k : Nat) : Int) == 0) = true := by rw [hz]; rfl
          clear hz
          generalize cnt (wo L id) k = z at *
          go_wp2_with (at_builtin; refine appI rfl (.tmp 24) (.tmp 26) rfl rfl ho4 rfl (by omega) b4.size ?_; intro A3 c3 w6 o6 g6; have b6 : Below w.heap.size w w6 := Ov.below (ho4.alloc _) (b4.alloc b4.size _) g6)
          go_roundw
          case rel => exact ⟨k + 1, m + 1, A3, c3, by go_num, by omega, by omega, rfl, by omega, by rw [HS2.out]; exact o6, b6⟩
          case measure => simp [intOf]; omega
        · have HS2 := Lib.hid (HS.out.trans (by rw [if_neg hz, List.append_nil]))
          have t2 : (((cnt (wo L id) k : Nat) : Int) == 0) = false := by rw [beq_eq_false_iff_ne]; omega
          clear hz
          generalize cnt (wo L id) k = z at *
          go_wp2_with fail
          go_roundw
          case rel => exact ⟨k + 1, m, P, q, by go_num, by omega, by omega, rfl, by omega, by rw [HS2.out]; exact ho4, b4⟩
          case measure => simp [intOf]; omega
      · have t1 : decide ((0 : Int) < ((cnt L k : Nat) : Int)) = false := by simp; omega
        have t2 : decide (0 < cnt L k) = false := by simp; omega
        have HS := Lib.hid (show whr (fun c => decide (0 < cnt L c) && cnt (wo L id) c == 0) (k + 1) = whr (fun c => decide (0 < cnt L c) && cnt (wo L id) c == 0) k by rw [hs, t2]; simp)
        clear hs hp
        go_wp2_with fail
        refine (rcount_any A L n c k _ HN.out hf hk1 hA1).mono ?_
        rintro e w3 ⟨rfl, rfl⟩
        generalize cnt L k = y at *
        go_wp2_with fail
        go_roundw
        case rel => exact ⟨k + 1, m, P, q, by go_num, by omega, by omega, rfl, by omega, by rw [HS.out]; exact ho, hb⟩
        case measure => simp [intOf]; omega
    · obtain rfl : k = 65 := by omega
      have e65 : ((65 : Nat) : Int) = 65 := rfl
      rw [e65]
      clear e65
      go_wp2_with fail
      go_ret
      exact ⟨P, m, q, rfl, ho, hb⟩

set_option maxRecDepth 10000 in
set_option maxHeartbeats 800000 in
/-- Two slices that read alike are told alike. -/
theorem ints_any (A B : Option Addr) (l : List Int) (n ca cb : Nat) (w : World) (hn : l.length = n) (hnc : n ≤ ca) (hcm : ca ≤ maxLen) (hA : Is w w.heap.size A l) (hB : Is w w.heap.size B l) :
    Calls Try.prog 31 #[.slice A n ca, .slice B n cb] w fun e w' => e = .returned (.bool true) ∧ Below w.heap.size w w' := by
  unfold maxLen at hcm
  have HN := Lib.hid hn
  clear hn
  go_enter Try.func31, Try.ntmps31
  go_wp2_with fail
  go_loopw [4, 5] (fun _ i wr => ∃ k : Nat, i = .int .i64 k ∧ k ≤ n ∧ Below w.heap.size w wr) (fun _ i _ => n - (intOf i).toNat)
  case atStart => exact ⟨0, rfl, by omega, Below.refl _ _⟩
  case round =>
    obtain ⟨k, rfl, hk, hb⟩ := hrel
    by_cases hlt : k < n
    · obtain ⟨ga, oa, rfl, _, hca⟩ := (show Is wr w.heap.size A l from hA.below hb).at_ (k := k) (by rw [HN.out]; exact hlt)
      obtain ⟨gb, ob, rfl, _, hcb⟩ := (show Is wr w.heap.size B l from hB.below hb).at_ (k := k) (by rw [HN.out]; exact hlt)
      generalize l.getD k 0 = y at *
      have hk0 : (0 : Int) ≤ (k : Int) := by omega
      have hkn : (k : Int) < (n : Int) := by omega
      go_wp2_with fail
      go_quiet (fail)
      go_wp2_with fail
      go_roundw
      case rel => exact ⟨k + 1, by go_num, by omega, below_drewN hb nq⟩
      case measure => simp [intOf]; omega
    · obtain rfl : k = n := by omega
      clear hlt
      go_wp2_with fail
      go_ret
      exact ⟨rfl, hb⟩
end Go.Proofs.Ytaaibgbblehngaa
