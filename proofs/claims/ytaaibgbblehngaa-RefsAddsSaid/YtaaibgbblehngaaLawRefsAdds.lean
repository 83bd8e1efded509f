/- The walk of the law RefsAdds. -/
import Derived.Test.YtaaibgbblehngaaRefI
import Derived.BigQuiet
import Derived.Deep.QuietTactic
namespace Go.Proofs.Ytaaibgbblehngaa
open Go.RowKit

theorem whr_mono (p q : Nat → Bool) (h : ∀ c, p c = true → q c = true) (k : Nat) : (whr p k).length ≤ (whr q k).length := by
  induction k with
  | zero => simp [whr]
  | succ k ih =>
    have hk := h k
    rw [whr_succ, whr_succ, List.length_append, List.length_append]
    cases hp : p k <;> cases hq : q k <;> by_cases h1 : 1 ≤ k <;> simp_all <;> omega
theorem whr_or_le (p q : Nat → Bool) (k : Nat) : (whr (fun c => p c || q c) k).length ≤ (whr p k).length + (whr q k).length := by
  induction k with
  | zero => simp [whr]
  | succ k ih =>
    rw [whr_succ, whr_succ, whr_succ, List.length_append, List.length_append, List.length_append]
    cases hp : p k <;> cases hq : q k <;> by_cases h1 : 1 ≤ k <;> simp_all <;> omega
theorem with_ge (L : List Snp) (l : List Int) : dst L ≤ (usd (fun c => cnt L c + occ l c)).length := by
  unfold dst usd
  exact whr_mono _ _ (fun c h => by simp at h ⊢; omega) 65
theorem with_le (L : List Snp) (l : List Int) : (usd (fun c => cnt L c + occ l c)).length ≤ dst L + l.length := by
  have h1 : (usd (fun c => cnt L c + occ l c)).length = (whr (fun c => decide (0 < cnt L c) || decide (0 < occ l c)) 65).length := by
    unfold usd
    congr 1
    refine whr_congr 65 fun c _ _ => ?_
    rw [Bool.eq_iff_iff]
    simp
    omega
  have h2 := whr_or_le (fun c => decide (0 < cnt L c)) (fun c => decide (0 < occ l c)) 65
  have h3 := whr_smf (occ l) 65
  rw [smf_occ] at h3
  have h4 := hvl_le l
  rw [h1]
  unfold dst usd
  omega
theorem with_nil (L : List Snp) : (usd (fun c => cnt L c + occ [] c)).length = dst L := by
  unfold dst
  congr 1
theorem cnt0 (L : List Snp) : cnt L 0 = 0 := by
  unfold cnt
  have : (L.map fun x => occ x.chunks 0) = L.map fun _ => 0 := List.map_congr_left fun x _ => by simp [occ]
  rw [this]
  induction L with
  | nil => rfl
  | cons a L ih => simpa using ih (List.map_congr_left fun x _ => by simp [occ])
/-- How many of the chunks below k have a count. -/
def myn (L : List Snp) (k : Nat) : Nat := (whr (fun c => decide (0 < cnt L c)) k).length
theorem myn_succ (L : List Snp) (k : Nat) : myn L (k + 1) = myn L k + if 0 < cnt L k then 1 else 0 := by
  unfold myn
  rw [whr_succ, List.length_append]
  congr 1
  by_cases h : 0 < cnt L k
  · have h1 : 1 ≤ k := by
      rcases Nat.eq_zero_or_pos k with h0 | h0
      · subst h0; rw [cnt0] at h; omega
      · exact h0
    rw [if_pos h, if_pos (by simp [h, h1])]
    rfl
  · rw [if_neg h, if_neg (by simp [h])]
    rfl
theorem few_app {a b : List Snp} (ha : a.length ≤ 20 ∧ ∀ x ∈ a, x.chunks.length ≤ 12) (hb : b.length ≤ 20 ∧ ∀ x ∈ b, x.chunks.length ≤ 12) : Few (a ++ b) := by
  refine ⟨by rw [List.length_append]; omega, fun x hx => ?_⟩
  rcases List.mem_append.1 hx with h | h
  · have := ha.2 x h; omega
  · have := hb.2 x h; omega

/-- counts of two rows, one behind the other: what the walk of 'refs.Counts(append(append([]api.Snap{}, a...), b...))' needs. -/
theorem rd_cnts {w : World} {A : Option Addr} {L : List Snp} (h : Is w w.heap.size A (cnts L)) : ∃ g off, A = some ⟨g, off, none⟩ ∧ g < w.heap.size ∧ ∀ c, c < 65 → w.cell? ⟨g, off + c, none⟩ = some (.int .i64 ((cnt L c : Nat) : Int)) := by
  obtain ⟨g, off, rfl, hg, _⟩ := h.at_ (k := 0) (by rw [cnts_length]; omega)
  refine ⟨g, off, rfl, hg, fun c hc => ?_⟩
  obtain ⟨g', off', he, _, hcell⟩ := h.at_ (k := c) (by rw [cnts_length]; exact hc)
  injection he with he
  injection he with e1 e2
  subst e1 e2
  rw [cnts_at L c hc] at hcell
  exact hcell

set_option maxRecDepth 100000 in
set_option maxHeartbeats 3200000 in
theorem refsAdds_walk (w : World) (A : Option Addr) (l : List Snp) (n cap : Nat) (hn : l.length = n) (hcap : n ≤ cap) (hm : cap ≤ maxLen) (hA : Sn w w.heap.size A l)
    (A' : Option Addr) (l' : List Snp) (n' cap' : Nat) (hn' : l'.length = n') (hcap' : n' ≤ cap') (hm' : cap' ≤ maxLen) (hA' : Sn w w.heap.size A' l')
    (Ac : Option Addr) (lc : List Int) (nc capc : Nat) (hnc : lc.length = nc) (hcapc : nc ≤ capc) (hmc : capc ≤ maxLen) (hAc : Is w w.heap.size Ac lc) :
    Calls Try.prog 11 #[.slice A n cap, .slice A' n' cap', .slice Ac nc capc] w fun e w' => e = .returned (.bool true) ∧ Below w.heap.size w w' := by
  unfold maxLen at hm hm' hmc
  have HN := Lib.hid hn
  have HN' := Lib.hid hn'
  have HNC := Lib.hid hnc
  clear hn hn' hnc
  obtain ⟨hfew, hle⟩ := fw_few l
  obtain ⟨hfew', hle'⟩ := fw_few l'
  have hab := Lib.hid (few_app hle hle')
  have hba := Lib.hid (few_app hle' hle)
  clear hle hle'
  go_enter Try.func11, Try.ntmps11
  go_wp2_with fail
  refine (shown06_any _).mono ?_
  rintro e w1 ⟨rfl, b1⟩
  have a1 := hA.step b1
  have a1' := hA'.step b1
  have c1 := hAc.step b1
  clear hA hA' hAc
  go_wp2_with fail
  refine (few_any A l n cap _ HN.out (by omega) a1).mono ?_
  rintro e w2 ⟨O, m, oc, rfl, o2, f2⟩
  have b2 := chain b1 f2
  have s2 := o2.sn
  have a2' := a1'.step f2
  have c2 := c1.step f2
  have HM := Lib.hid o2.1
  have hm20 : m ≤ 100 := by have := HM.out; have := hfew.1; omega
  clear a1 a1' c1 f2 b1 o2
  go_wp2_with fail
  refine (few_any A' l' n' cap' _ HN'.out (by omega) a2').mono ?_
  rintro e w3 ⟨O', m', oc', rfl, o3, f3⟩
  have b3 := chain b2 f3
  have s3 := s2.step f3
  have s3' := o3.sn
  have c3 := c2.step f3
  have HM' := Lib.hid o3.1
  have hm20' : m' ≤ 100 := by have := HM'.out; have := hfew'.1; omega
  clear s2 a2' c2 f3 b2 o3
  go_wp2_with fail
  refine (short06_any Ac lc nc capc _ HNC.out hcapc hmc).mono ?_
  rintro e w4 ⟨rfl, rfl⟩
  have ct3 : Is w3 w3.heap.size Ac (lc.take 12) := by rw [Is, List.map_take]; exact c3.take 12
  have ht12 : (lc.take 12).length ≤ 12 := by rw [List.length_take]; omega
  generalize lc.take 12 = t at *
  generalize fw l = M at *
  generalize fw l' = M' at *
  have HF := Lib.hid hfew
  have HF' := Lib.hid hfew'
  clear hfew hfew' c3
  obtain ⟨tn, htn⟩ : ∃ tn, t.length = tn := ⟨_, rfl⟩
  have HTN := Lib.hid htn
  rw [htn] at ht12 ⊢
  clear htn
  go_wp2_with fail
  refine (counts_any O M m oc _ HM.out HF s3).mono ?_
  rintro e w4 ⟨XA, xn, xc, rfl, xl, xcc, xcm, xi, f4⟩
  rw [cnts_length] at xl
  subst xl
  have b4 := chain b3 f4
  have s4 := s3.step f4
  have s4' := s3'.step f4
  have t4 := ct3.step f4
  clear s3 s3' ct3 f4 b3
  go_wp2_with fail
  refine (counts_any O' M' m' oc' _ HM'.out HF' s4').mono ?_
  rintro e w5 ⟨YA, yn, yc, rfl, yl, ycc, ycm, yi, f5⟩
  rw [cnts_length] at yl
  subst yl
  have b5 := chain b4 f5
  have s5 := s4.step f5
  have s5' := s4'.step f5
  have t5 := t4.step f5
  have x5 := xi.step f5
  clear s4 s4' t4 f5 b4 xi
  have hzU : OwnS (w5.alloc (.cells #[] TS)) w5.heap.size w5.heap.size (some ⟨w5.heap.size, 0, none⟩) 0 0 [] := OwnS.empty (Nat.le_refl _)
  have dzU : Below w5.heap.size w5 (w5.alloc (.cells #[] TS)) := (Below.refl _ _).alloc (Nat.le_refl _) _
  obtain ⟨vU, vlU, vrU, viU, voU⟩ := (s5.below dzU).ed (Nat.le_refl _) dzU.size
  rw [HM.out] at vlU
  have VLU := Lib.hid vlU
  have VIU := Lib.hid viU
  have VOU := Lib.hid voU
  clear vlU viU voU
  unfold TS at hzU dzU vrU
  go_wp2_with (first
    | (at_builtin; refine appSnaps rfl (.tmp 26) (.tmp 27) rfl rfl hzU rfl HM.out VLU.out vrU VIU.out VOU.out (by omega) dzU.size (Nat.le_refl _) ?_; intro P1 q1 p1 ow1 g1; simp only [Nat.zero_add, List.nil_append] at ow1; have e1 : Below w5.heap.size w5 p1 := OwnS.below hzU dzU g1; obtain ⟨v2, vl2, vr2, vi2, vo2⟩ := (s5'.below e1).ed (Nat.le_refl _) e1.size; rw [HM'.out] at vl2; have VL2 := Lib.hid vl2; have VI2 := Lib.hid vi2; have VO2 := Lib.hid vo2; clear vl2 vi2 vo2)
    | (at_builtin; refine appSnaps rfl (.tmp 28) (.tmp 29) rfl rfl ow1 rfl HM'.out VL2.out vr2 VI2.out VO2.out (by omega) e1.size (Nat.le_refl _) ?_; intro P2 q2 p2 ow2 g2; have e2 : Below w5.heap.size w5 p2 := OwnS.below ow1 e1 g2))
  have HLU := Lib.hid ow2.1
  have sabU := ow2.sn
  have bbU := chain b5 e2
  have u5 := s5.step e2
  have u5' := s5'.step e2
  have ut5 := t5.step e2
  have ux5 := x5.step e2
  have uy5 := yi.step e2
  clear s5 s5' t5 x5 yi b5 hzU dzU vrU VLU VIU VOU ow1 g1 e1 vr2 VL2 VI2 VO2 ow2 g2 e2
  refine (counts_any P2 (M ++ M') (m + m') q2 _ HLU.out hab sabU).mono ?_
  rintro e w6 ⟨zA, zn, zc, rfl, zl, zcc, zcm, zi, f6⟩
  rw [cnts_length] at zl
  subst zl
  have b6 := chain bbU f6
  have s6 := u5.step f6
  have s6' := u5'.step f6
  have t6 := ut5.step f6
  have x6 := ux5.step f6
  have y6 := uy5.step f6
  clear sabU f6 bbU u5 u5' ut5 ux5 uy5
  have hzV : OwnS (w6.alloc (.cells #[] TS)) w6.heap.size w6.heap.size (some ⟨w6.heap.size, 0, none⟩) 0 0 [] := OwnS.empty (Nat.le_refl _)
  have dzV : Below w6.heap.size w6 (w6.alloc (.cells #[] TS)) := (Below.refl _ _).alloc (Nat.le_refl _) _
  obtain ⟨vV, vlV, vrV, viV, voV⟩ := (s6'.below dzV).ed (Nat.le_refl _) dzV.size
  rw [HM'.out] at vlV
  have VLV := Lib.hid vlV
  have VIV := Lib.hid viV
  have VOV := Lib.hid voV
  clear vlV viV voV
  unfold TS at hzV dzV vrV
  go_wp2_with (first
    | (at_builtin; refine appSnaps rfl (.tmp 32) (.tmp 33) rfl rfl hzV rfl HM'.out VLV.out vrV VIV.out VOV.out (by omega) dzV.size (Nat.le_refl _) ?_; intro P1 q1 p1 ow1 g1; simp only [Nat.zero_add, List.nil_append] at ow1; have e1 : Below w6.heap.size w6 p1 := OwnS.below hzV dzV g1; obtain ⟨v2, vl2, vr2, vi2, vo2⟩ := (s6.below e1).ed (Nat.le_refl _) e1.size; rw [HM.out] at vl2; have VL2 := Lib.hid vl2; have VI2 := Lib.hid vi2; have VO2 := Lib.hid vo2; clear vl2 vi2 vo2)
    | (at_builtin; refine appSnaps rfl (.tmp 34) (.tmp 35) rfl rfl ow1 rfl HM.out VL2.out vr2 VI2.out VO2.out (by omega) e1.size (Nat.le_refl _) ?_; intro P2 q2 p2 ow2 g2; have e2 : Below w6.heap.size w6 p2 := OwnS.below ow1 e1 g2))
  have HLV := Lib.hid ow2.1
  have sabV := ow2.sn
  have bbV := chain b6 e2
  have r6 := s6.step e2
  have r6' := s6'.step e2
  have rt6 := t6.step e2
  have rx6 := x6.step e2
  have ry6 := y6.step e2
  have rz6 := zi.step e2
  clear s6 s6' t6 x6 y6 zi b6 hzV dzV vrV VLV VIV VOV ow1 g1 e1 vr2 VL2 VI2 VO2 ow2 g2 e2
  refine (counts_any P2 (M' ++ M) (m' + m) q2 _ HLV.out hba sabV).mono ?_
  rintro e w7 ⟨vA, vn, vc, rfl, vl, vcc, vcm, vi, f6⟩
  rw [cnts_length] at vl
  subst vl
  have b7 := chain bbV f6
  have s7 := r6.step f6
  have s7' := r6'.step f6
  have t7 := rt6.step f6
  have x7 := rx6.step f6
  have y7 := ry6.step f6
  have z7 := rz6.step f6
  clear sabV f6 bbV r6 r6' rt6 rx6 ry6 rz6
  obtain ⟨gx, ox, hXA, hgx, hx⟩ := rd_cnts x7
  obtain ⟨gy, oy, hYA, hgy, hy⟩ := rd_cnts y7
  obtain ⟨gz, oz, hZA, hgz, hz⟩ := rd_cnts z7
  obtain ⟨gv, ov, hVA, hgv, hv⟩ := rd_cnts vi
  subst hXA hYA hZA hVA
  have HX := Lib.hid hx
  have HY := Lib.hid hy
  have HZ := Lib.hid hz
  have HV := Lib.hid hv
  unfold maxLen at xcm ycm zcm vcm
  clear hx hy hz hv x7 y7 z7 vi s7'
  go_wp2_with fail
  go_loopw [6, 12, 13] (fun _ many i wr => ∃ k : Nat, i = .int .i64 k ∧ k ≤ 65 ∧ many = .int .i64 (myn M k : Nat) ∧ Below w7.heap.size w7 wr) (fun _ _ i _ => 65 - (intOf i).toNat)
  case atStart => exact ⟨0, rfl, by omega, rfl, Below.refl _ _⟩
  case round =>
    obtain ⟨k, rfl, hk, rfl, hb⟩ := hrel
    by_cases hlt : k < 65
    · have cx := (hb.cell (p := ⟨gx, ox + k, none⟩) hgx).trans (HX.out k hlt)
      have cy := (hb.cell (p := ⟨gy, oy + k, none⟩) hgy).trans (HY.out k hlt)
      have cz := (hb.cell (p := ⟨gz, oz + k, none⟩) hgz).trans (HZ.out k hlt)
      have cv := (hb.cell (p := ⟨gv, ov + k, none⟩) hgv).trans (HV.out k hlt)
      rw [cnt_append] at cz cv
      have hms := Lib.hid (myn_succ M k)
      have hp1 := HF.out.cnt k
      have hq1 := HF'.out.cnt k
      have hmy : myn M k ≤ 65 := by
        unfold myn
        exact Nat.le_trans (whr_le _ _) (by omega)
      have hk0 : (0 : Int) ≤ (k : Int) := by omega
      have hk65 : (k : Int) < 65 := by omega
      generalize cnt M k = p at *
      generalize cnt M' k = q at *
      generalize myn M k = y at *
      have ez : ((p + q : Nat) : Int) = (p : Int) + (q : Int) := by omega
      have ev : ((q + p : Nat) : Int) = (p : Int) + (q : Int) := by omega
      rw [ez] at cz
      rw [ev] at cv
      have hw : IntKind.i64.wrap ((p : Int) + (q : Int)) = (p : Int) + (q : Int) := IntWalk.i64_in _ (by omega)
      clear ez ev
      go_wp2_with fail
      go_quiet (fail)
      clear hw
      by_cases hp0 : 0 < p
      · have t1 : decide ((0 : Int) < (p : Int)) = true := by simp; omega
        have HS := Lib.hid (show myn M (k + 1) = y + 1 by rw [hms.out, if_pos hp0])
        go_wp2_with fail
        go_roundw
        case rel => exact ⟨k + 1, by go_num, by omega, by rw [HS.out]; go_num, below_drewN hb nq⟩
        case measure => simp [intOf]; omega
      · have t1 : decide ((0 : Int) < (p : Int)) = false := by simp; omega
        have HS := Lib.hid (show myn M (k + 1) = y by rw [hms.out, if_neg hp0]; rfl)
        have t2 : decide (0 < p) = false := by simp; omega
        have t3 : p ≤ 0 := by omega
        go_wp2_with fail
        go_roundw
        case rel => exact ⟨k + 1, by go_num, by omega, by rw [HS.out], below_drewN hb nq⟩
        case measure => simp [intOf]; omega
    · obtain rfl : k = 65 := by omega
      have hdm : myn M 65 = dst M := rfl
      rw [hdm]
      have hge := with_ge M t
      have hle := with_le M t
      rw [HTN.out] at hle
      have hd := dst_64 M
      have HW0 := Lib.hid (with_nil M)
      have b8 := chain b7 hb
      have s8 := s7.step hb
      have t8 := t7.step hb
      have e65 : ((65 : Nat) : Int) = 65 := rfl
      rw [e65]
      clear e65 hlt hdm b7 hb
      go_wp2_with fail
      refine (with_any O M m oc Ac t tn capc _ HM.out HF s8 HTN.out (by omega) t8).mono ?_
      rintro e w9 ⟨rfl, f9⟩
      have b9 := chain b8 f9
      have s9 := s8.step f9
      clear s8 t8 f9 b8
      generalize (usd (fun c => cnt M c + occ t c)).length = W at *
      go_wp2_with fail
      refine (distinct_any O M m oc _ HM.out HF s9).mono ?_
      rintro e w10 ⟨rfl, f10⟩
      have b10 := chain b9 f10
      have s10 := s9.step f10
      clear s9 f10 b9
      generalize hD : dst M = D at *
      have HD := Lib.hid hD
      clear hD
      have t1 : decide ((D : Int) ≤ (W : Int)) = true := by simp; omega
      have t2 : decide ((W : Int) ≤ (D : Int) + (tn : Int)) = true := by simp; omega
      have t3 : decide (D ≤ W) = true := by simp; omega
      go_wp2_with fail
      refine (with_any O M m oc none [] 0 0 _ HM.out HF s10 rfl (by omega) Rd.nil).mono ?_
      rintro e w11 ⟨rfl, f11⟩
      have b11 := chain b10 f11
      rw [HW0.out]
      clear s10 f11 b10
      go_wp2_with fail
      go_ret
      exact ⟨by simp, b11⟩
end Go.Proofs.Ytaaibgbblehngaa
