/- The walk of store.Put. -/
import Derived.Test.YtcgkoojegopfnaaKinds
import Derived.Test.YtcgkoojegopfnaaStoP
import Derived.Test.YtcgkoojegopfnaaSVint
import Derived.Test.YtcgkoojegopfnaaRegS
import Derived.Deep.DeepCutAuto
namespace Go.Proofs.Ytcgkoojegopfnaa
open Go.RowKit
set_option linter.unusedSimpArgs false
set_option linter.unusedVariables false

abbrev TRec : TypeId := 50
def kdF (k : Int) : Value := if k = 1 then .func (.func 58) #[] #[] else if k = 2 then .func (.func 59) #[] #[] else if k = 3 then .func (.func 60) #[] #[] else if k = 4 then .func (.func 61) #[] #[] else .nilFunc
theorem kdAt_eq (k : Int) : kdAt k = .agg #[.int .i64 (kd k).least, .int .i64 (kd k).most, .bool (kd k).second, .int .i64 (kd k).mostB, .int .i64 ((kd k).mostX : Nat), kdF k] := by
  unfold kdAt kd kdF
  split
  · rfl
  · split
    · rfl
    · split
      · rfl
      · split
        · rfl
        · rfl
def kdCells (d : Kd) (f : Value) : Array Value := #[.int .i64 d.least, .int .i64 d.most, .bool d.second, .int .i64 d.mostB, .int .i64 (d.mostX : Nat), f]
def IsMap (v : Value) (w : World) : Prop := ∃ g, v = .map (some g) ∧ Kmap w g
theorem isMap_step : ∀ v w w', Below w.heap.size w w' → IsMap v w → IsMap v w' := fun _ _ _ hb ⟨g, h1, h2⟩ => ⟨g, h1, h2.step hb⟩
def IsNewK (B : Nat) (v : Value) (w : World) : Prop := ∃ g cs, v = .pointer (some ⟨g, 0, none⟩) ∧ B ≤ g ∧ cs.size = 6 ∧ Blk w g TK cs
theorem isNewK_step (B : Nat) : ∀ v w w', Below w.heap.size w w' → IsNewK B v w → IsNewK B v w' := fun _ _ _ hb ⟨g, cs, h1, h2, h3, h4⟩ => ⟨g, cs, h1, h2, h3, h4.below hb h4.lt⟩
def IsKd (B : Nat) (d : Kd) (f : Value) (u : Value) (_ : Value) (w : World) : Prop := ∃ g, u = .pointer (some ⟨g, 0, none⟩) ∧ B ≤ g ∧ Blk w g TK (kdCells d f)
theorem isKd_step (B : Nat) (d : Kd) (f : Value) : ∀ u v w w', Below w.heap.size w w' → IsKd B d f u v w → IsKd B d f u v w' := fun _ _ _ _ hb ⟨g, h1, h2, h3⟩ => ⟨g, h1, h2, h3.below hb h3.lt⟩
theorem kdF_one (k : Int) : (kdF k).oneCell' = true := by
  unfold kdF
  split
  · rfl
  · split
    · rfl
    · split
      · rfl
      · split
        · rfl
        · rfl
theorem set6 (cs : Array Value) (h : cs.size = 6) (a b c d e f : Value) : (((((cs.setIfInBounds 0 a).setIfInBounds 1 b).setIfInBounds 2 c).setIfInBounds 3 d).setIfInBounds 4 e).setIfInBounds 5 f = #[a, b, c, d, e, f] := by
  obtain ⟨l⟩ := cs
  match l, h with
  | [_, _, _, _, _, _], _ => rfl

/-- What Put hands back. -/
def PutR (w : World) (r : Rcd) (e : Ending) (w' : World) : Prop :=
  ∃ A n c, e = .returned (.tuple #[.slice A n c, .int .i64 (rPut r).2]) ∧ Own w' w.heap.size A n c (rPut r).1 ∧ Below w.heap.size w w'

def rBad (r : Rcd) (d : Kd) (ok : Bool) : Bool := !ok || decide (r.a < d.least) || decide (d.most < r.a) || decide (r.b < 0) || decide (d.mostB < r.b) || decide (d.mostX < r.x.length)
theorem rBad_spec (r : Rcd) : rBad r (kd r.kind) (kdOk r.kind) = !rOk r := by
  unfold rBad rOk kdOk
  rw [Bool.eq_iff_iff]
  simp only [Bool.or_eq_true, Bool.not_eq_true', decide_eq_true_eq, decide_eq_false_iff_not]
  omega

set_option maxRecDepth 100000 in
set_option maxHeartbeats 3200000 in
theorem sput_any (r : Rcd) (X : Option Addr) (m c : Nat) (w : World) (hm : r.x.length = m) (hmb : m ≤ 1000000) (hX : Bs w w.heap.size X r.x) (ha : -9223372036854775808 ≤ r.a ∧ r.a ≤ 9223372036854775807) (hb : -9223372036854775808 ≤ r.b ∧ r.b ≤ 9223372036854775807) :
    Calls Try.prog 31 #[.agg #[.int .i64 r.kind, .int .i64 r.a, .int .i64 r.b, .slice X m c]] w (PutR w r) := by
  obtain ⟨wb, hwb⟩ : ∃ wb, wb = w.alloc (.cells #[.int .i64 r.kind, .int .i64 r.a, .int .i64 r.b, .slice X m c] TRec) := ⟨_, rfl⟩
  have hb0 : Below w.heap.size w wb := by rw [hwb]; exact (Below.refl _ _).alloc (Nat.le_refl _) _
  have hK : Blk wb w.heap.size TRec #[.int .i64 r.kind, .int .i64 r.a, .int .i64 r.b, .slice X m c] := by rw [hwb]; exact Blk.new w _ _
  have hX0 := hX.step hb0
  have hkl := hK.lt
  obtain ⟨d, hd⟩ : ∃ d, kd r.kind = d := ⟨_, rfl⟩
  obtain ⟨ok, hok⟩ : ∃ ok, kdOk r.kind = ok := ⟨_, rfl⟩
  obtain ⟨fv, hfv⟩ : ∃ fv, kdF r.kind = fv := ⟨_, rfl⟩
  have hone := kdF_one r.kind
  rw [hfv] at hone
  have hbad := rBad_spec r
  have hat := kdAt_eq r.kind
  rw [hd, hok] at hbad
  rw [hd, hfv] at hat
  have HBAD := Lib.hid hbad
  have HAT := Lib.hid hat
  have HD := Lib.hid hd
  have HOK := Lib.hid hok
  have HM := Lib.hid hm
  clear hbad hat hd hok hfv hX hm
  go_enter Try.func31, Try.ntmps31
  go_upto_region 1 with (fail)
  rw [← hwb]
  clear hwb
  refine wp_region_invX (B := wb.heap.size) (by kernel_rfl) ?hB1 [.at 0 IsMap isMap_step, .val (.pointer (some ⟨w.heap.size, 0, none⟩)), .val (.int .i64 r.kind), .valAt 0 0 (.tuple #[.agg #[.int .i64 d.least, .int .i64 d.most, .bool d.second, .int .i64 d.mostB, .int .i64 (d.mostX : Nat), fv], .bool ok]), .val (.tuple #[.agg #[.int .i64 d.least, .int .i64 d.most, .bool d.second, .int .i64 d.mostB, .int .i64 (d.mostX : Nat), fv], .bool ok]), .val (.agg #[.int .i64 d.least, .int .i64 d.most, .bool d.second, .int .i64 d.mostB, .int .i64 (d.mostX : Nat), fv]), .val (.bool ok), .at 0 (IsNewK wb.heap.size) (isNewK_step _), .fxOn 0 7 (IsKd wb.heap.size d fv) (isKd_step _ _ _), .val (.bool ok)] [8] (fun _ _ => True) (T := ?T1) (by kernel_rfl) ?hSt1 ?h01 ?hT1 ?hask1 ?hend1
  case hB1 =>
    exact Nat.le_refl _
  case hSt1 =>
    exact fun _ _ _ _ _ => trivial
  case h01 =>
    trivial
  case hT1 =>
    intro vs
    simp only [fill, Act.put, List.setIfInBounds_toArray, List.set_cons_succ, List.set_cons_zero, Nat.reduceAdd]
    exact rfl
  case hask1 =>
    refine askX_cons (fun vs w1 s hlo hhi hb hst hd hin => ?_) ?_
    · obtain rfl : s = 0 := Nat.le_antisymm hhi hlo
      clear hlo hhi
      have hst : True := hst
      simp only [DepX, Region.binds, SxI, List.getD_cons_zero, List.getD_cons_succ, Sx.av_val, Sx.av_valAt, Sx.av_fxAt, Sx.av_bsAt, Sx.av_ownAt, Sx.av_fxOwn, Sx.av_at, Sx.av_fx, Sx.av_on, Sx.av_fxOn, and_true] at hd
      go_simp
      refine givx_enter ((kinds_any _).mono ?_)
      rintro e w2 ⟨g, rfl, h1, h2⟩
      exact ⟨_, rfl, givx_of rfl h2 ⟨g, rfl, h1⟩⟩
    refine askX_cons (fun vs w1 s hlo hhi hb hst hd hin => ?_) ?_; (focus (clear hlo hhi hst hin; simp only [DepX, Region.binds, SxI, List.getD_cons_zero, List.getD_cons_succ, Sx.av_val, Sx.av_valAt, Sx.av_fxAt, Sx.av_bsAt, Sx.av_ownAt, Sx.av_fxOwn, Sx.av_at, Sx.av_fx, Sx.av_on, Sx.av_fxOn, and_true] at hd; go_simp; exact givx_pure rfl rfl))
    refine askX_cons (fun vs w1 s hlo hhi hb hst hd hin => ?_) ?_
    · clear hlo hhi hst
      simp only [DepX, Region.binds, SxI, List.getD_cons_zero, List.getD_cons_succ, Sx.av_val, Sx.av_valAt, Sx.av_fxAt, Sx.av_bsAt, Sx.av_ownAt, Sx.av_fxOwn, Sx.av_at, Sx.av_fx, Sx.av_on, Sx.av_fxOn, and_true] at hd
      have c0 := (hK.below hb hkl).cell 0
      simp only [List.getElem?_toArray, List.getElem?_cons_zero] at c0
      go_simp
      exact givx_pure rfl rfl
    refine askX_cons (fun vs w1 s hlo hhi hb hst hd hin => ?_) ?_
    · obtain rfl : s = 0 := Nat.le_antisymm hhi hlo
      clear hlo hhi
      have hst : True := hst
      simp only [DepX, Region.binds, SxI, List.getD_cons_zero, List.getD_cons_succ, Sx.av_val, Sx.av_valAt, Sx.av_fxAt, Sx.av_bsAt, Sx.av_ownAt, Sx.av_fxOwn, Sx.av_at, Sx.av_fx, Sx.av_on, Sx.av_fxOn, and_true] at hd
      obtain ⟨g, hv, hmap⟩ := hd.1 (Nat.le_refl 0)
      have h1 := hd.2
      clear hd
      have hl := hmap.look r.kind true
      rw [HAT.out, HOK.out] at hl
      simp only [if_true] at hl
      generalize vs 0 = v0 at *
      subst hv
      go_simp
      exact givx_pure rfl rfl
    iterate 3 (refine askX_cons (fun vs w1 s hlo hhi hb hst hd hin => ?_) ?_; (focus (clear hlo hhi hst hin; simp only [DepX, Region.binds, SxI, List.getD_cons_zero, List.getD_cons_succ, Sx.av_val, Sx.av_valAt, Sx.av_fxAt, Sx.av_bsAt, Sx.av_ownAt, Sx.av_fxOwn, Sx.av_at, Sx.av_fx, Sx.av_on, Sx.av_fxOn, and_true] at hd; go_simp; exact givx_pure rfl rfl)))
    refine askX_cons (fun vs w1 s hlo hhi hb hst hd hin => ?_) ?_
    · obtain rfl : s = 0 := Nat.le_antisymm hhi hlo
      clear hlo hhi
      have hst : True := hst
      simp only [DepX, Region.binds, SxI, List.getD_cons_zero, List.getD_cons_succ, Sx.av_val, Sx.av_valAt, Sx.av_fxAt, Sx.av_bsAt, Sx.av_ownAt, Sx.av_fxOwn, Sx.av_at, Sx.av_fx, Sx.av_on, Sx.av_fxOn, and_true] at hd
      have hle := hb.size
      go_simp
      exact givx_value rfl ((Below.refl _ _).alloc (Nat.le_refl _) _) ⟨_, _, rfl, hle, rfl, Blk.new _ _ _⟩
    refine askX_cons (fun vs w1 s hlo hhi hb hst hd hin => ?_) ?_
    · obtain rfl : s = 0 := Nat.le_antisymm hhi hlo
      clear hlo hhi
      have hst : True := hst
      simp only [DepX, Region.binds, SxI, List.getD_cons_zero, List.getD_cons_succ, Sx.av_val, Sx.av_valAt, Sx.av_fxAt, Sx.av_bsAt, Sx.av_ownAt, Sx.av_fxOwn, Sx.av_at, Sx.av_fx, Sx.av_on, Sx.av_fxOn, and_true] at hd
      obtain ⟨g, cs, hv, hg, hsz, hk⟩ := hd.1 (Nat.le_refl 0)
      have h5 := hd.2.1
      clear hd
      have e0 : w1.cell? ⟨g, 0, none⟩ = some (cs[0]'(by omega)) := (hk.cell 0).trans (Array.getElem?_eq_getElem _)
      have f0 := hk.free 0
      have e1 : w1.cell? ⟨g, 1, none⟩ = some (cs[1]'(by omega)) := (hk.cell 1).trans (Array.getElem?_eq_getElem _)
      have f1 := hk.free 1
      have e2 : w1.cell? ⟨g, 2, none⟩ = some (cs[2]'(by omega)) := (hk.cell 2).trans (Array.getElem?_eq_getElem _)
      have f2 := hk.free 2
      have e3 : w1.cell? ⟨g, 3, none⟩ = some (cs[3]'(by omega)) := (hk.cell 3).trans (Array.getElem?_eq_getElem _)
      have f3 := hk.free 3
      have e4 : w1.cell? ⟨g, 4, none⟩ = some (cs[4]'(by omega)) := (hk.cell 4).trans (Array.getElem?_eq_getElem _)
      have f4 := hk.free 4
      have e5 : w1.cell? ⟨g, 5, none⟩ = some (cs[5]'(by omega)) := (hk.cell 5).trans (Array.getElem?_eq_getElem _)
      have f5 := hk.free 5
      go_simp
      have hk2 := (((((hk.set 0 (.int .i64 d.least)).set 1 (.int .i64 d.most)).set 2 (.bool d.second)).set 3 (.int .i64 d.mostB)).set 4 (.int .i64 (d.mostX : Nat))).set 5 fv
      rw [set6 cs hsz] at hk2
      rw [run_store _ _ _ fv _ hone]
      go_simp
      exact givx_skip rfl (((((((Below.refl wb.heap.size w1).setCell hg _).setCell hg _).setCell hg _).setCell hg _).setCell hg _).setCell hg _) trivial ⟨g, hv, hg, hk2⟩
    refine askX_cons (fun vs w1 s hlo hhi hb hst hd hin => ?_) ?_; (focus (clear hlo hhi hst hin; simp only [DepX, Region.binds, SxI, List.getD_cons_zero, List.getD_cons_succ, Sx.av_val, Sx.av_valAt, Sx.av_fxAt, Sx.av_bsAt, Sx.av_ownAt, Sx.av_fxOwn, Sx.av_at, Sx.av_fx, Sx.av_on, Sx.av_fxOn, and_true] at hd; go_simp; exact givx_pure rfl rfl))
    exact askX_nil
  case hend1 =>
    intro vs w1 hb hst hd
    simp only [AllX, SxI, List.getD_cons_zero, List.getD_cons_succ, Sx.av_val, Sx.av_valAt, Sx.av_fxAt, Sx.av_bsAt, Sx.av_ownAt, Sx.av_fxOwn, Sx.av_at, Sx.av_fx, Sx.av_on, Sx.av_fxOn, and_true, Nat.reduceAdd] at hd
    have hlast := hd.2.2.2.2.2.2.2.2.2
    have h8 := hd.2.2.2.2.2.2.2.2.1
    clear hd
    obtain ⟨g, hv7, hg, hk⟩ := (show 1 ≤ 0 + 1 → IsKd wb.heap.size d fv (vs 7) (vs 8) w1 from h8) (Nat.le_refl 1)
    have hl9 := hlast
    clear hlast h8
    generalize vs 7 = p7 at *
    subst hv7
    have hK1 := hK.below hb hkl
    have b1 := hb0.trans (hb.mono hb0.size)
    have hX1 := hX0.step hb
    have hs0 := hb0.size
    have hs1 := hb.size
    clear hK hX0 hst
    have k0 := hK1.cell 0
    have k1 := hK1.cell 1
    have k2 := hK1.cell 2
    have k3 := hK1.cell 3
    have q0 := hk.cell 0
    have q1 := hk.cell 1
    have q2 := hk.cell 2
    have q3 := hk.cell 3
    have q4 := hk.cell 4
    simp only [kdCells, List.getElem?_toArray, List.getElem?_cons_zero, List.getElem?_cons_succ] at k0 k1 k2 k3 q0 q1 q2 q3 q4
    generalize vs 9 = p9 at *
    subst hl9
    obtain ⟨bad, hbd⟩ : ∃ bad, rBad r d ok = bad := ⟨_, rfl⟩
    have HBD := Lib.hid hbd
    have hmx : r.x.length = m := HM.out
    clear hbd
    go_upto_region 2 with (fail)
    go_cut [49] (fun v wx => v = .bool bad ∧ wx = w1)
    case first =>
      cases ok
      · obtain rfl : bad = true := by rw [← HBD.out]; rfl
        go_wp2_with fail
        go_meet
        exact ⟨rfl, rfl⟩
      · by_cases t0 : r.a < d.least
        · obtain rfl : bad = true := by rw [← HBD.out]; simp [rBad, hmx, t0]
          clear hmx
          go_wp2_with fail
          go_meet
          exact ⟨rfl, rfl⟩
        · by_cases t1 : d.most < r.a
          · obtain rfl : bad = true := by rw [← HBD.out]; simp [rBad, hmx, t0, t1]
            clear hmx
            go_wp2_with fail
            go_meet
            exact ⟨rfl, rfl⟩
          · by_cases t2 : r.b < 0
            · obtain rfl : bad = true := by rw [← HBD.out]; simp [rBad, hmx, t0, t1, t2]
              clear hmx
              go_wp2_with fail
              go_meet
              exact ⟨rfl, rfl⟩
            · by_cases t3 : d.mostB < r.b
              · obtain rfl : bad = true := by rw [← HBD.out]; simp [rBad, hmx, t0, t1, t2, t3]
                clear hmx
                go_wp2_with fail
                go_meet
                exact ⟨rfl, rfl⟩
              · by_cases t4 : d.mostX < m
                · obtain rfl : bad = true := by rw [← HBD.out]; simp [rBad, hmx, t0, t1, t2, t3, t4]
                  clear hmx
                  go_wp2_with fail
                  go_meet
                  exact ⟨rfl, rfl⟩
                · obtain rfl : bad = false := by rw [← HBD.out]; simp [rBad, hmx]; omega
                  clear hmx
                  go_wp2_with fail
                  go_meet
                  exact ⟨rfl, rfl⟩
    case rest =>
      obtain ⟨rfl, hwc⟩ := hcut
      subst hwc
      have hbr : bad = !rOk r := by rw [← HBD.out]; exact HBAD.out
      cases hro : rOk r
      · obtain rfl : bad = true := by rw [hbr, hro]; rfl
        have HR := Lib.hid (show rPut r = ([], 1) by unfold rPut; rw [hro]; rfl)
        clear hbr hro hmx
        go_wp2_with fail
        go_ret2
        exact ⟨none, 0, 0, by rw [HR.out]; rfl, by rw [HR.out]; exact Ob.nil_ _ _ _, b1⟩
      · obtain rfl : bad = false := by rw [hbr, hro]; rfl
        have HR := Lib.hid (show rPut r = (rBytes r, 0) by unfold rPut; rw [hro]; rfl)
        obtain ⟨a1, a2, a3, a4, a5, _, _⟩ := rOk_bd hro
        obtain ⟨a6, a7, _⟩ := rOk_spec hro
        clear hbr hro hmx
        obtain ⟨nk, hnk⟩ := Int.eq_ofNat_of_zero_le (show 0 ≤ r.kind by omega)
        obtain ⟨na, hna⟩ := Int.eq_ofNat_of_zero_le a1
        obtain ⟨nb, hnb⟩ := Int.eq_ofNat_of_zero_le a3
        rw [hnk] at k0 a6 a7
        rw [hna] at k1 a1 a2
        rw [hnb] at k2 a3 a4
        have HL := Lib.hid (show rBytes r = [byteN nk] ++ vput na ++ (if d.second = true then vput nb else []) ++ r.x by unfold rBytes; rw [HD.out, hnk, hna, hnb]; rfl)
        have e1 : IntKind.u8.wrap (nk : Int) = (nk : Int) := IntWalk.u8_in _ (by omega)
        have e2 : IntKind.u64.wrap (na : Int) = (na : Int) := IntWalk.u64_in _ (by omega)
        have hC : (#[.int .u8 (nk : Int)] : Array Value).toList.take [byteN nk].length = [byteN nk].map bv := by
          simp [bv, byteN_toNat]; omega
        have HC := Lib.hid hC
        have hn64 := Lib.hid (show na < 18446744073709551616 by omega)
        have hnb64 := Lib.hid (show nb < 18446744073709551616 by omega)
        have hvs := vsize_le na
        have hvb := vsize_le nb
        have HNB := Lib.hid hnb
        have hlt1 := hK1.lt
        have hlt2 := hk.lt
        clear hnk hna hnb hC
        go_wp2_with fail
        have own1 : Own (wc.alloc (.cells #[.int .u8 (nk : Int)] 5)) wc.heap.size (some ⟨wc.heap.size, 0, none⟩) 1 1 [byteN nk] := Ob.lit rfl HC.out rfl (Nat.le_refl _) (by omega)
        have bal := (Below.refl wc.heap.size wc).alloc (Nat.le_refl _) (.cells #[.int .u8 (nk : Int)] 5)
        refine (vput_any na _ hn64).mono ?_
        rintro e w3 ⟨A3, c3, rfl, o3, b3⟩
        have own3 := own1.step b3
        have bb3 := bal.trans (b3.mono bal.size)
        clear e1 e2 own1 bal
        have hmm := HM.out
        clear hmm
        cases HSEC : d.second
        · have HL2 := Lib.hid (show rBytes r = [byteN nk] ++ vput na ++ r.x by rw [HL.out, HSEC]; simp)
          go_wp2_with (first
            | (at_builtin; refine app rfl (.tmp 54) (.tmp 58) rfl rfl own3 rfl rfl o3.bs (by omega) bb3.size ?_; intro A4 c4 w4 o4 g4 hA4; have b4 : Below wc.heap.size wc w4 := Own.grown own3 bb3 g4; have q2' := (hk.below b4 hk.lt).cell 2; have k2' := (hK1.below b4 hK1.lt).cell 2; have k3' := (hK1.below b4 hK1.lt).cell 3; have hX4 := hX1.step b4; simp only [kdCells, HSEC, List.getElem?_toArray, List.getElem?_cons_zero, List.getElem?_cons_succ] at q2' k2' k3'; rw [HNB.out] at k2')
            | (at_builtin; refine app rfl (.tmp 68) (.tmp 70) rfl rfl o4 rfl HM.out hX4 (by omega) b4.size ?_; intro A5 c5 w5 o5 g5 hA5; have b5 : Below wc.heap.size wc w5 := Own.grown o4 b4 g5))
          go_ret2
          refine ⟨A5, _, c5, by rw [HR.out]; rfl, ?_, b1.trans (b5.mono b1.size)⟩
          rw [HR.out]
          show Own w5 w.heap.size A5 _ c5 (rBytes r)
          rw [HL2.out]
          exact Ob.mono o5 b1.size
        · have HL2 := Lib.hid (show rBytes r = [byteN nk] ++ vput na ++ vput nb ++ r.x by rw [HL.out, HSEC]; simp)
          have e3 : IntKind.u64.wrap (nb : Int) = (nb : Int) := IntWalk.u64_in _ (by omega)
          go_wp2_with (at_builtin; refine app rfl (.tmp 54) (.tmp 58) rfl rfl own3 rfl rfl o3.bs (by omega) bb3.size ?_; intro A4 c4 w4 o4 g4 hA4; have b4 : Below wc.heap.size wc w4 := Own.grown own3 bb3 g4; have q2' := (hk.below b4 hk.lt).cell 2; have k2' := (hK1.below b4 hK1.lt).cell 2; have k3' := (hK1.below b4 hK1.lt).cell 3; have hX4 := hX1.step b4; simp only [kdCells, HSEC, List.getElem?_toArray, List.getElem?_cons_zero, List.getElem?_cons_succ] at q2' k2' k3'; rw [HNB.out] at k2')
          refine (vput_any nb _ hnb64).mono ?_
          rintro e w5 ⟨A5, c5, rfl, o5, b5⟩
          have o45 := Ob.step o4 b5
          have bb5 := b4.trans (b5.mono b4.size)
          have k3'' := (hK1.below bb5 hK1.lt).cell 3
          have hX5 := hX1.step bb5
          simp only [List.getElem?_toArray, List.getElem?_cons_zero, List.getElem?_cons_succ] at k3''
          clear q2' k2' k3' e3
          go_wp2_with (first
            | (at_builtin; refine app rfl (.tmp 62) (.tmp 66) rfl rfl o45 rfl rfl o5.bs (by omega) bb5.size ?_; intro A6 c6 w6 o6 g6 hA6; have b6 : Below wc.heap.size wc w6 := Own.grown o45 bb5 g6; have k36 := (hK1.below b6 hK1.lt).cell 3; have hX6 := hX1.step b6; simp only [List.getElem?_toArray, List.getElem?_cons_zero, List.getElem?_cons_succ] at k36)
            | (at_builtin; refine app rfl (.tmp 68) (.tmp 70) rfl rfl o6 rfl HM.out hX6 (by omega) b6.size ?_; intro A7 c7 w7 o7 g7 hA7; have b7 : Below wc.heap.size wc w7 := Own.grown o6 b6 g7))
          go_ret2
          refine ⟨A7, _, c7, by rw [HR.out]; rfl, ?_, b1.trans (b7.mono b1.size)⟩
          rw [HR.out]
          show Own w7 w.heap.size A7 _ c7 (rBytes r)
          rw [HL2.out]
          exact Ob.mono o7 b1.size
end Go.Proofs.Ytcgkoojegopfnaa
