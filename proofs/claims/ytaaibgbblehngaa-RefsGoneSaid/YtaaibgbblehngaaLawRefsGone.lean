/- The walk of the law RefsGone. -/
import Derived.Test.YtaaibgbblehngaaRefH
import Derived.Deep.RegionWith
namespace Go.Proofs.Ytaaibgbblehngaa
open Go.RowKit

/-- The chunks freed so far, and the first j of those that are freed now. -/
def mrk (M : List Snp) (k : Nat) (x : Snp) (j : Nat) (c : Nat) : Bool := fre M k c || ((frd (rst M k) x.id).take j).contains (c : Int)
theorem mrk_zero (M : List Snp) (k : Nat) (x : Snp) (c : Nat) : mrk M k x 0 c = fre M k c := by simp [mrk]
theorem mrk_all (M : List Snp) (k : Nat) {x : Snp} (h : M[k]? = some x) (c : Nat) (h1 : 1 ≤ c) (h2 : c ≤ 64) : mrk M k x (frd (rst M k) x.id).length c = fre M (k + 1) c := by
  unfold mrk
  rw [List.take_length, fre_succ M k h, frd_nxt]
  congr 1
  rw [Bool.eq_iff_iff, List.contains_iff_mem, mem_whr]
  constructor
  · rintro ⟨d, hd, _, _, hp⟩
    obtain rfl : c = d := by omega
    exact hp
  · intro hp
    exact ⟨c, rfl, h1, by omega, hp⟩
theorem mrk_next (M : List Snp) (k : Nat) (x : Snp) (j : Nat) (hj : j < (frd (rst M k) x.id).length) :
    ∃ c : Nat, (frd (rst M k) x.id).getD j 0 = (c : Int) ∧ 1 ≤ c ∧ c ≤ 64 ∧ mrk M k x j c = false ∧ mrk M k x (j + 1) c = true ∧ ∀ d, d ≠ c → mrk M k x (j + 1) d = mrk M k x j d := by
  have hmem : (frd (rst M k) x.id)[j] ∈ frd (rst M k) x.id := List.getElem_mem hj
  have hm2 : (frd (rst M k) x.id)[j] ∈ whr (nxt M k x) 65 := hmem
  obtain ⟨c, hc, h1, h2, hp⟩ := mem_whr.1 hm2
  have hg : (frd (rst M k) x.id).getD j 0 = (c : Int) := by rw [List.getD_eq_getElem?_getD, List.getElem?_eq_getElem hj]; exact hc
  have htk : (frd (rst M k) x.id).take (j + 1) = (frd (rst M k) x.id).take j ++ [(c : Int)] := by rw [List.take_succ_eq_append_getElem hj, hc]
  refine ⟨c, hg, h1, by omega, ?_, ?_, fun d hd => ?_⟩
  · unfold mrk
    have hf : fre M k c = false := by
      cases h : fre M k c
      · rfl
      · exact absurd ⟨h, hp⟩ (fre_nxt M k x c)
    rw [hf, Bool.false_or]
    cases hh : ((frd (rst M k) x.id).take j).contains (c : Int)
    · rfl
    · exfalso
      have hin := List.contains_iff_mem.1 hh
      obtain ⟨i, hi, he⟩ := List.getElem_of_mem hin
      rw [List.length_take] at hi
      have hlt := whr_rising (nxt M k x) 65 i j (by omega) (by rw [← frd_nxt]; exact hj)
      rw [← frd_nxt, hg, List.getD_eq_getElem?_getD, List.getElem?_eq_getElem (show i < (frd (rst M k) x.id).length by omega)] at hlt
      rw [List.getElem_take] at he
      rw [Option.getD_some, he] at hlt
      omega
  · unfold mrk
    rw [htk]
    simp
  · unfold mrk
    rw [htk]
    have : ((d : Nat) : Int) ≠ (c : Int) := by omega
    simp [this]

theorem whr_false (k : Nat) : whr (fun _ => false) k = [] := by
  unfold whr
  simp
theorem cnt_at0 (L : List Snp) : cnt L 0 = 0 := by
  unfold cnt
  have : (L.map fun x => occ x.chunks 0) = L.map fun _ => 0 := List.map_congr_left fun x _ => by simp [occ]
  rw [this]
  induction L with
  | nil => rfl
  | cons a L ih => simpa using ih (List.map_congr_left fun x _ => by simp [occ])
theorem fre_start (M : List Snp) : (whr (fre M 0) 65).length = 0 := by
  rw [whr_congr (q := fun _ => false) 65 (fun c _ _ => fre_zero M c), whr_false]
  rfl
theorem mrk_at0 (M : List Snp) (k : Nat) (x : Snp) (j : Nat) : mrk M k x j 0 = fre M (k + 1) 0 := by
  have h1 : fre M k 0 = false := by unfold fre; rw [cnt_at0]; simp
  have h2 : fre M (k + 1) 0 = false := by unfold fre; rw [cnt_at0]; simp
  unfold mrk
  rw [h1, h2, Bool.false_or]
  cases hh : ((frd (rst M k) x.id).take j).contains (((0 : Nat)) : Int)
  · rfl
  · exfalso
    have hin := List.mem_of_mem_take (List.contains_iff_mem.1 hh)
    rw [frd_nxt, mem_whr] at hin
    obtain ⟨c, hc, h3, _⟩ := hin
    omega
theorem dst_nil : dst [] = 0 := by decide +kernel

set_option maxRecDepth 10000 in
set_option maxHeartbeats 3200000 in
theorem refsGone_walk (w : World) (A : Option Addr) (l : List Snp) (n cap : Nat) (hn : l.length = n) (hcap : n ≤ cap) (hm : cap ≤ maxLen) (hA : Sn w w.heap.size A l) :
    Calls Try.prog 6 #[.slice A n cap] w fun e w' => e = .returned (.bool true) ∧ Below w.heap.size w w' := by
  unfold maxLen at hm
  have HN := Lib.hid hn
  clear hn
  obtain ⟨hfew, hlen20, _⟩ := fw_few l
  go_enter Try.func6, Try.ntmps6
  go_wp2_with fail
  refine (shown06_any _).mono ?_
  rintro e w1 ⟨rfl, b1⟩
  have a1 := hA.step b1
  clear hA
  go_wp2_with fail
  refine (few_any A l n cap _ HN.out (by omega) a1).mono ?_
  rintro e w2 ⟨O, m, oc, rfl, o2, f2⟩
  have b2 := chain b1 f2
  have hs12 := f2.size
  have ob2 := o2.mono b1.size (Nat.le_refl _)
  generalize fw l = M at *
  have HF := Lib.hid hfew
  have HM := Lib.hid o2.1
  have hm20 : m ≤ 20 := by have := HM.out; omega
  clear a1 f2 hfew hlen20 o2
  go_wp2_with fail
  refine (distinct_any O M m oc _ HM.out HF ob2.sn).mono ?_
  rintro e w3 ⟨rfl, f3⟩
  have b3 := chain b2 f3
  have hs23 := f3.size
  have o3 := ob2.step f3
  clear ob2 f3
  have hdl : dst M ≤ 65 := usd_le _
  have hocap := o3.cap
  unfold maxLen at hocap
  obtain ⟨hoc1, hoc2⟩ := hocap
  go_wp2_with (refine mkB rfl _ _ rfl rfl rfl b3.size ?_; intro w4 o4 g4; have b4 : Below w.heap.size w w4 := b3.grown g4 b3.size (by simp); have l4 := o3.keptT (row := none) g4 (by simp) (fun g hg => by cases hg) (fun g hg => by cases hg))
  have hB1 : w1.heap.size ≤ w3.heap.size := by omega
  have hG : w.heap.size ≤ w3.heap.size := b3.size
  generalize w3.heap.size = G at *
  generalize w1.heap.size = B1 at *
  have hst := Lib.hid (fre_start M)
  have o5 : Ov w4 w.heap.size TB 1 (some ⟨G, 0, none⟩) 65 65 (boolV (fre M 0)) := by rw [boolV_congr (fun c _ => fre_zero M c)]; exact o4
  clear o4 o3 g4 b3 hs12 hs23
  go_wp2_with fail
  go_loopw [2, 6, 7, 8] (fun _ many rest i wr => ∃ (k q : Nat) (R : Option Addr) (rc : Nat), i = .int .i64 k ∧ k ≤ m ∧ many = .int .i64 ((whr (fre M k) 65).length : Nat) ∧ rest = .slice R q rc ∧ OwnS wr w.heap.size B1 R q rc (rst M k) ∧ OwnS wr w.heap.size B1 O m oc M ∧ Ov wr w.heap.size TB 1 (some ⟨G, 0, none⟩) 65 65 (boolV (fre M k)) ∧ Below w.heap.size w wr) (fun _ _ _ i _ => m - (intOf i).toNat)
  case atStart => exact ⟨0, m, O, oc, rfl, by omega, by rw [hst.out]; rfl, rfl, by rw [rst_zero]; exact l4, l4, o5, b4⟩
  case round =>
    clear hst o5 l4 b4
    obtain ⟨k, q, R, rc, rfl, hk, rfl, rfl, hr, hl, ho, hb⟩ := hrel
    by_cases hlt : k < m
    · have hx : M[k]? = some (M[k]'(by rw [HM.out]; exact hlt)) := List.getElem?_eq_getElem _
      obtain ⟨b, off, Ac, cc, hOa, hbB, c0, _⟩ := hl.sn.at_ hx
      subst hOa
      have hcount := Lib.hid (fre_count M k hx)
      have hsucc := Lib.hid (rst_succ M k hx)
      have hmall := Lib.hid (fun c h1 h2 => mrk_all M k hx c h1 h2)
      have hnext := Lib.hid (fun j => mrk_next M k (M[k]'(by rw [HM.out]; exact hlt)) j)
      have hz0 := Lib.hid (boolV_congr (fun c _ => (mrk_zero M k (M[k]'(by rw [HM.out]; exact hlt)) c).symm))
      have hx0 := hx
      clear hx
      have hxk := Lib.hid hx0
      clear hx0
      generalize M[k]'(by rw [HM.out]; exact hlt) = x at *
      have HQ := Lib.hid hr.1
      have hfl := Lib.hid (frd_le (rst M k) x.id)
      have hw65 := whr_le (fre M k) 65
      go_wp2_with fail
      refine (freed_any R (rst M k) q rc x.id _ HQ.out (Lib.hid (HF.out.rst k)) hr.sn).mono ?_
      rintro e w5 ⟨FA, fn, fc, rfl, of, ff⟩
      have hr5 := hr.step ff
      have hl5 := hl.step ff
      have ho5 := ho.step ff
      rw [hz0.out] at ho5
      have hb5 := chain hb ff
      have hfn := Lib.hid (IsRow.len of)
      have hfnb : fn ≤ 65 := by have := hfl.out; have := hfn.out; omega
      have of5 := of.mono hb.size
      clear hr hl ho hb ff of c0
      generalize hcn : (whr (fre M k) 65).length = cn at *
      have HCN := Lib.hid hcn
      clear hcn
      generalize frd (rst M k) x.id = fl at *
      go_wp2_with fail
      go_loopw [2, 6, 10] (fun _ many j wr => ∃ t : Nat, j = .int .i64 t ∧ t ≤ fn ∧ many = .int .i64 ((cn + t : Nat) : Int) ∧ OwnS wr w.heap.size B1 R q rc (rst M k) ∧ OwnS wr w.heap.size B1 (some ⟨b, off, none⟩) m oc M ∧ Ov wr w.heap.size TB 1 (some ⟨G, 0, none⟩) 65 65 (boolV (mrk M k x t)) ∧ Ov wr w.heap.size TI 1 FA fn fc (fl.map iv) ∧ Below w.heap.size w wr) (fun _ _ j _ => fn - (intOf j).toNat)
      case atStart => exact ⟨0, rfl, by omega, rfl, hr5, hl5, ho5, of5, hb5⟩
      case round =>
        clear hr5 hl5 ho5 of5 hb5
        obtain ⟨t, rfl, ht, rfl, hr, hl, ho, of, hb⟩ := hrel
        by_cases hltf : t < fn
        · obtain ⟨c, hc, h1, h2, hq0, hq1, hqd⟩ := hnext.out t (by rw [hfn.out]; exact hltf)
          obtain ⟨gf, foff, hFA, _, hcf⟩ := (show Is wr wr.heap.size FA fl from of.rd).at_ (k := t) (by rw [hfn.out]; exact hltf)
          subst hFA
          rw [hc] at hcf
          have hcb := ho.cell1 c (by simp [boolV]; omega)
          rw [boolV_at _ _ (by omega), hq0] at hcb
          have hfr := ho.free1 c
          have gr := grown_cell wr G c (.bool true)
          have hnS : NotT wr (some G) TS := Ov.notT ho (show TB ≠ TS by decide)
          have hnI : NotT wr (some G) TI := Ov.notT ho (show TB ≠ TI by decide)
          have hr' := hr.keptT gr (fun g hg => by injection hg with hg; omega) hnS hnI
          have hl' := hl.keptT gr (fun g hg => by injection hg with hg; omega) hnS hnI
          have of' := of.keptT gr hnI
          have ho' := ho.set1 c (.bool true)
          rw [boolV_set (mrk M k x t) (mrk M k x (t + 1)) c hq1 (fun d _ hd => hqd d hd)] at ho'
          have hb' := hb.setCell (p := ⟨G, c, none⟩) hG (.bool true)
          have hc1 : decide ((c : Int) < 1) = false := by simp; omega
          have hc2 : decide (64 < (c : Int)) = false := by simp; omega
          clear hc hq0 hq1 hqd hr hl ho of hb gr hnS hnI
          go_wp2_with fail
          go_roundw
          case rel => exact ⟨t + 1, by go_num, by omega, by go_num, hr', hl', ho', of', hb'⟩
          case measure => simp [intOf]; omega
        · obtain rfl : t = fn := by omega
          obtain ⟨b', off', Ac', cc', hOa, _, c0, _⟩ := hl.sn.at_ (k := k) (x := x) hxk.out
          injection hOa with hOa
          injection hOa with e1 e2
          subst e1 e2
          have hb65 : boolV (mrk M k x t) = boolV (fre M (k + 1)) := by
            rw [← hfn.out]
            refine boolV_congr fun c hc => ?_
            by_cases hc0 : 1 ≤ c
            · exact hmall.out c hc0 hc
            · obtain rfl : c = 0 := by omega
              exact mrk_at0 M k x _
          rw [hb65] at ho
          have HCT := Lib.hid (show (whr (fre M (k + 1)) 65).length = cn + t by rw [hcount.out, hfn.out])
          clear hb65 hltf
          go_wp2_with fail
          refine (without_any R (rst M k) q rc x.id _ HQ.out (Lib.hid (HF.out.rst k)) hr.sn).mono ?_
          rintro e w6 ⟨R2, q2, rc2, rfl, o6, f6⟩
          have hr6 : OwnS w6 w.heap.size B1 R2 q2 rc2 (rst M (k + 1)) := by rw [hsucc.out]; exact o6.mono hb.size (Nat.zero_le _)
          have hl6 := hl.step f6
          have ho6 := ho.step f6
          have hb6 := chain hb f6
          clear hr hl ho of hb f6 o6 c0
          go_wp2_with fail
          go_roundw
          case rel => exact ⟨k + 1, q2, R2, rc2, by go_num, by omega, by rw [HCT.out]; go_num, rfl, hr6, hl6, ho6, hb6⟩
          case measure => simp [intOf]; omega
    · obtain rfl : k = m := by omega
      have hall : rst M k = [] := by rw [← HM.out]; exact rst_all M
      have hq0 : q = 0 := by rw [← hr.1, hall]; rfl
      subst hq0
      have hcnt := Lib.hid (show (whr (fre M k) 65).length = dst M by rw [← HM.out]; exact fre_all M)
      rw [hall] at hr
      rw [hcnt.out]
      have hs := hr.sn
      clear hall hl ho hr hlt
      go_wp2_with fail
      refine (distinct_any R [] 0 rc _ rfl (Lib.hid ⟨by decide, by simp⟩) hs).mono ?_
      rintro e w7 ⟨rfl, f7⟩
      have b7 := chain hb f7
      rw [dst_nil]
      go_wp2_with fail
      go_ret
      exact ⟨by simp, b7⟩
end Go.Proofs.Ytaaibgbblehngaa
