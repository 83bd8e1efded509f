/- The walks of the document's in and Put (chapter 15). -/
import Derived.Test.YtcgkoojegopfnaaStoPut
import Derived.Test.YtcgkoojegopfnaaSVint
import Derived.Test.YtcgkoojegopfnaaRegS
import Derived.Test.YtcgkoojegopfnaaOpF
import Derived.Deep.DeepCutAuto
import Derived.Deep.CutBlock
namespace Go.Proofs.Ytcgkoojegopfnaa
open Go.RowKit
set_option linter.unusedSimpArgs false
set_option linter.unusedVariables false

theorem in15_any (x lo hi : Int) (w : World) :
    Calls Try.prog 66 #[.int .i64 x, .int .i64 lo, .int .i64 hi] w fun e w' => e = .returned (.bool (decide (lo ≤ x ∧ x ≤ hi))) ∧ w = w' := by
  by_cases h : lo ≤ x
  · by_cases h2 : x ≤ hi
    · go_enter Try.func66, Try.ntmps66
      go_wp2_with fail
      go_ret
      exact ⟨by rw [decide_eq_true (by omega)]; rfl, rfl⟩
    · go_enter Try.func66, Try.ntmps66
      go_wp2_with fail
      go_ret
      exact ⟨by rw [decide_eq_false (by omega)]; rfl, rfl⟩
  · go_enter Try.func66, Try.ntmps66
    go_wp2_with fail
    go_ret
    exact ⟨by rw [decide_eq_false (by omega)]; rfl, rfl⟩

/-- What the document asks of a record of each kind. -/
def okR (r : Rcd) : Bool :=
  if r.kind = 1 then decide (1 ≤ r.a ∧ r.a ≤ 3)
  else if r.kind = 2 then decide (0 ≤ r.a ∧ r.a ≤ 1048576) && decide (0 ≤ r.b ∧ r.b ≤ 5)
  else if r.kind = 3 then decide (1 ≤ r.a ∧ r.a ≤ 64) && decide (0 ≤ r.b ∧ r.b ≤ 1048576) && decide (r.x.length ≤ 200)
  else if r.kind = 4 then decide (1 ≤ r.a ∧ r.a ≤ 64)
  else false
def twoR (r : Rcd) : Bool := decide (r.kind = 2) || decide (r.kind = 3)
def badR (r : Rcd) : Bool := !okR r || (!twoR r && decide (r.b ≠ 0)) || (decide (r.kind ≠ 3) && decide (0 < r.x.length))
theorem badR_spec (r : Rcd) : badR r = !rOk r := by
  unfold badR rOk okR twoR
  generalize r.x.length = n
  rw [Bool.eq_iff_iff]
  by_cases h1 : r.kind = 1
  · have hk : kd r.kind = ⟨1, 3, false, 0, 0⟩ := by rw [h1]; rfl
    rw [hk]; simp [h1]; omega
  · by_cases h2 : r.kind = 2
    · have hk : kd r.kind = ⟨0, 1048576, true, 5, 0⟩ := by rw [h2]; rfl
      rw [hk]; simp [h2]; omega
    · by_cases h3 : r.kind = 3
      · have hk : kd r.kind = ⟨1, 64, true, 1048576, 200⟩ := by rw [h3]; rfl
        rw [hk]; simp [h3]; omega
      · by_cases h4 : r.kind = 4
        · have hk : kd r.kind = ⟨1, 64, false, 0, 0⟩ := by rw [h4]; rfl
          rw [hk]; simp [h4]; omega
        · simp [h1, h2, h3, h4]; omega

set_option maxRecDepth 100000 in
set_option maxHeartbeats 3200000 in
theorem rput15_any (r : Rcd) (X : Option Addr) (m c : Nat) (w : World) (hm : r.x.length = m) (hmb : m ≤ 1000000) (hX : Bs w w.heap.size X r.x) (ha : -9223372036854775808 ≤ r.a ∧ r.a ≤ 9223372036854775807) (hb : -9223372036854775808 ≤ r.b ∧ r.b ≤ 9223372036854775807) :
    Calls Try.prog 53 #[.agg #[.int .i64 r.kind, .int .i64 r.a, .int .i64 r.b, .slice X m c]] w (PutR w r) := by
  obtain ⟨wb, hwb⟩ : ∃ wb, wb = w.alloc (.cells #[.int .i64 r.kind, .int .i64 r.a, .int .i64 r.b, .slice X m c] TRec) := ⟨_, rfl⟩
  have hb0 : Below w.heap.size w wb := by rw [hwb]; exact (Below.refl _ _).alloc (Nat.le_refl _) _
  have hK : Blk wb w.heap.size TRec #[.int .i64 r.kind, .int .i64 r.a, .int .i64 r.b, .slice X m c] := by rw [hwb]; exact Blk.new w _ _
  have hX0 := hX.step hb0
  have hkl := hK.lt
  have k0 := hK.cell 0
  have k1 := hK.cell 1
  have k2 := hK.cell 2
  have k3 := hK.cell 3
  simp only [List.getElem?_toArray, List.getElem?_cons_zero, List.getElem?_cons_succ] at k0 k1 k2 k3
  go_enter Try.func53, Try.ntmps53
  go_upto_region 2 with (fail)
  rw [← hwb]
  clear hwb
  obtain ⟨ok, hok⟩ : ∃ ok, okR r = ok := ⟨_, rfl⟩
  obtain ⟨two, htwo⟩ : ∃ two, twoR r = two := ⟨_, rfl⟩
  have HOK := Lib.hid hok
  have HTWO := Lib.hid htwo
  have HM := Lib.hid hm
  clear hok htwo hm
  go_cut [5] (fun v wx => v = .bool two ∧ wx = wb)
  case first =>
    by_cases h2 : r.kind = 2
    · obtain rfl : two = true := by rw [← HTWO.out]; simp [twoR, h2]
      go_wp2_with fail
      go_meet
      exact ⟨rfl, rfl⟩
    · by_cases h3 : r.kind = 3
      · obtain rfl : two = true := by rw [← HTWO.out]; simp [twoR, h3]
        go_wp2_with fail
        go_meet
        exact ⟨rfl, rfl⟩
      · obtain rfl : two = false := by rw [← HTWO.out]; simp [twoR, h2, h3]
        have n2 : (r.kind == 2) = false := by simpa using h2
        have n3 : (r.kind == 3) = false := by simpa using h3
        go_wp2_with fail
        go_meet
        exact ⟨rfl, rfl⟩
  case rest =>
    obtain ⟨rfl, hwc⟩ := hcut
    subst hwc
    go_upto_block 0 with fail
    go_cut [4] (fun v wx => v = .bool ok ∧ wx = wc)
    case first =>
      have IN := fun (x lo hi : Int) (b : Bool) (h : decide (lo ≤ x ∧ x ≤ hi) = b) => (show Calls Try.prog 66 #[.int .i64 x, .int .i64 lo, .int .i64 hi] wc (fun e w' => e = .returned (.bool b) ∧ wc = w') from h ▸ in15_any x lo hi wc)
      have IN := Lib.hid IN
      obtain ⟨c1, hc1⟩ : ∃ c, (r.kind == 1) = c := ⟨_, rfl⟩
      obtain ⟨c2, hc2⟩ : ∃ c, (r.kind == 2) = c := ⟨_, rfl⟩
      obtain ⟨c3, hc3⟩ : ∃ c, (r.kind == 3) = c := ⟨_, rfl⟩
      obtain ⟨c4, hc4⟩ : ∃ c, (r.kind == 4) = c := ⟨_, rfl⟩
      have hokc : okR r = (if c1 = true then decide (1 ≤ r.a ∧ r.a ≤ 3) else if c2 = true then decide (0 ≤ r.a ∧ r.a ≤ 1048576) && decide (0 ≤ r.b ∧ r.b ≤ 5) else if c3 = true then decide (1 ≤ r.a ∧ r.a ≤ 64) && decide (0 ≤ r.b ∧ r.b ≤ 1048576) && decide (m ≤ 200) else if c4 = true then decide (1 ≤ r.a ∧ r.a ≤ 64) else false) := by
        unfold okR
        rw [← hc1, ← hc2, ← hc3, ← hc4, HM.out]
        simp only [beq_iff_eq]
      rw [HOK.out] at hokc
      have HC1 := Lib.hid hc1
      have HC2 := Lib.hid hc2
      have HC3 := Lib.hid hc3
      have HC4 := Lib.hid hc4
      have HOC := Lib.hid hokc
      clear hc1 hc2 hc3 hc4 hokc
      go_upto_if 17 with (fail)
      rw [HC1.out]
      cases c1
      · go_upto_if 22 with (fail)
        rw [HC2.out]
        cases c2
        · go_upto_if 32 with (fail)
          rw [HC3.out]
          cases c3
          · go_upto_if 48 with (fail)
            rw [HC4.out]
            cases c4
            · obtain rfl : ok = false := HOC.out
              go_wp2_with fail
              go_meet
              exact ⟨rfl, rfl⟩
            · go_wp2_with fail
              refine (IN.out r.a 1 64 ok HOC.out.symm).mono ?_
              rintro e w2 ⟨rfl, rfl⟩
              go_wp2_with fail
              go_meet
              exact ⟨rfl, rfl⟩
          · obtain ⟨o1, ho1⟩ : ∃ o1, decide (1 ≤ r.a ∧ r.a ≤ 64) = o1 := ⟨_, rfl⟩
            obtain ⟨o2, ho2⟩ : ∃ o2, decide (0 ≤ r.b ∧ r.b ≤ 1048576) = o2 := ⟨_, rfl⟩
            obtain ⟨o3, ho3⟩ : ∃ o3, decide (m ≤ 200) = o3 := ⟨_, rfl⟩
            have HE := Lib.hid (show ok = (o1 && o2 && o3) by rw [← ho1, ← ho2, ← ho3]; exact HOC.out)
            have HO := Lib.hid ho1
            have HO2 := Lib.hid ho2
            have HO3 := Lib.hid ho3
            clear ho1 ho2 ho3
            go_wp2_with fail
            refine (IN.out r.a 1 64 o1 HO.out).mono ?_
            rintro e w2 ⟨rfl, rfl⟩
            cases o1
            · go_wp2_with fail
              go_meet
              exact ⟨by rw [HE.out]; rfl, rfl⟩
            · go_wp2_with fail
              refine (IN.out r.b 0 1048576 o2 HO2.out).mono ?_
              rintro e w2 ⟨rfl, rfl⟩
              cases o2
              · go_wp2_with fail
                go_meet
                exact ⟨by rw [HE.out]; rfl, rfl⟩
              · go_wp2_with fail
                go_meet
                exact ⟨by rw [HE.out, ← HO3.out]; exact congrArg Value.bool (show decide ((m : Int) ≤ 200) = (true && true && decide (m ≤ 200)) by simp only [Bool.true_and]; exact decide_eq_decide.2 (by omega)), rfl⟩
        · obtain ⟨o1, ho1⟩ : ∃ o1, decide (0 ≤ r.a ∧ r.a ≤ 1048576) = o1 := ⟨_, rfl⟩
          have HE := Lib.hid (show ok = (o1 && decide (0 ≤ r.b ∧ r.b ≤ 5)) by rw [← ho1]; exact HOC.out)
          have HO := Lib.hid ho1
          clear ho1
          go_wp2_with fail
          refine (IN.out r.a 0 1048576 o1 HO.out).mono ?_
          rintro e w2 ⟨rfl, rfl⟩
          cases o1
          · go_wp2_with fail
            go_meet
            exact ⟨by rw [HE.out]; rfl, rfl⟩
          · go_wp2_with fail
            refine (IN.out r.b 0 5 ok (by rw [HE.out]; rfl)).mono ?_
            rintro e w2 ⟨rfl, rfl⟩
            go_wp2_with fail
            go_meet
            exact ⟨rfl, rfl⟩
      · go_wp2_with fail
        refine (IN.out r.a 1 3 ok HOC.out.symm).mono ?_
        rintro e w2 ⟨rfl, rfl⟩
        go_wp2_with fail
        go_meet
        exact ⟨rfl, rfl⟩
    case rest =>
      obtain ⟨rfl, hwc⟩ := hcut
      subst hwc
      obtain ⟨bad, hbd⟩ : ∃ bad, badR r = bad := ⟨_, rfl⟩
      have HBD := Lib.hid hbd
      clear hbd
      go_upto_region 12 with (fail)
      go_cut [74] (fun v wx => v = .bool bad ∧ wx = wc)
      case first =>
        have hb2 : (!ok || (!two && decide (r.b ≠ 0)) || (decide (r.kind ≠ 3) && decide (0 < m))) = bad := by rw [← HBD.out, ← HOK.out, ← HTWO.out, ← HM.out]; rfl
        have HB := Lib.hid hb2
        clear hb2
        cases ok
        · obtain rfl : bad = true := by rw [← HB.out]; rfl
          go_wp2_with fail
          go_meet
          exact ⟨rfl, rfl⟩
        · obtain ⟨c3, hc3⟩ : ∃ c, (r.kind != 3) = c := ⟨_, rfl⟩
          obtain ⟨cb, hcb⟩ : ∃ c, (r.b != 0) = c := ⟨_, rfl⟩
          have hb3 : ((!two && cb) || (c3 && decide (0 < m))) = bad := by rw [← HB.out, show decide (r.b ≠ 0) = cb by rw [← hcb, Bool.eq_iff_iff]; simp, show decide (r.kind ≠ 3) = c3 by rw [← hc3, Bool.eq_iff_iff]; simp]; simp
          have HB3 := Lib.hid hb3
          have hm0 : decide (0 < (m : Int)) = decide (0 < m) := decide_eq_decide.2 (by omega)
          have HM0 := Lib.hid hm0
          clear hb3 hm0
          cases two
          · cases cb
            · cases c3
              · go_wp2_with fail
                go_meet
                exact ⟨by rw [← HB3.out]; rfl, rfl⟩
              · go_wp2_with fail
                go_meet
                exact ⟨by rw [← HB3.out]; simp [HM0.out], rfl⟩
            · go_wp2_with fail
              go_meet
              exact ⟨by rw [← HB3.out]; rfl, rfl⟩
          · cases c3
            · go_wp2_with fail
              go_meet
              exact ⟨by rw [← HB3.out]; rfl, rfl⟩
            · go_wp2_with fail
              go_meet
              exact ⟨by rw [← HB3.out]; simp [HM0.out], rfl⟩
      case rest =>
        obtain ⟨rfl, hwc⟩ := hcut
        subst hwc
        have hbr : bad = !rOk r := by rw [← HBD.out]; exact badR_spec r
        cases hro : rOk r
        · obtain rfl : bad = true := by rw [hbr, hro]; rfl
          have HR := Lib.hid (show rPut r = ([], 1) by unfold rPut; rw [hro]; rfl)
          clear hbr hro
          go_wp2_with fail
          go_ret2
          exact ⟨none, 0, 0, by rw [HR.out]; rfl, by rw [HR.out]; exact Ob.nil_ _ _ _, hb0⟩
        · obtain rfl : bad = false := by rw [hbr, hro]; rfl
          have HR := Lib.hid (show rPut r = (rBytes r, 0) by unfold rPut; rw [hro]; rfl)
          obtain ⟨a1, a2, a3, a4, a5, _, _⟩ := rOk_bd hro
          obtain ⟨a6, a7, _⟩ := rOk_spec hro
          have hsec : (kd r.kind).second = two := by
            rw [← HTWO.out]
            unfold twoR
            rcases kd_cases a6 a7 with ⟨e, k⟩ | ⟨e, k⟩ | ⟨e, k⟩ | ⟨e, k⟩ <;> rw [k, e] <;> rfl
          clear hbr hro
          obtain ⟨nk, hnk⟩ := Int.eq_ofNat_of_zero_le (show 0 ≤ r.kind by omega)
          obtain ⟨na, hna⟩ := Int.eq_ofNat_of_zero_le a1
          obtain ⟨nb, hnb⟩ := Int.eq_ofNat_of_zero_le a3
          have HL := Lib.hid (show rBytes r = [byteN nk] ++ vput na ++ (if two = true then vput nb else []) ++ r.x by unfold rBytes; rw [hsec, hnk, hna, hnb]; rfl)
          rw [hnk] at k0 a6 a7 hK
          rw [hna] at k1 a1 a2 hK
          rw [hnb] at k2 a3 a4 hK
          have e1 : IntKind.u8.wrap (nk : Int) = (nk : Int) := IntWalk.u8_in _ (by omega)
          have e2 : IntKind.u64.wrap (na : Int) = (na : Int) := IntWalk.u64_in _ (by omega)
          have hC : (#[.int .u8 (nk : Int)] : Array Value).toList.take [byteN nk].length = [byteN nk].map bv := by
            simp [bv, byteN_toNat]; omega
          have HC := Lib.hid hC
          have hn64 := Lib.hid (show na < 18446744073709551616 by omega)
          have hnb64 := Lib.hid (show nb < 18446744073709551616 by omega)
          have hvs := vsize_le na
          have hvb := vsize_le nb
          have hvs0 := hvs
          have hvb0 := hvb
          unfold vsize at hvs hvb
          clear hnk hna hnb hC hsec
          go_upto_region 14 with (fail)
          clear HBD HOK HTWO
          refine wp_region_invX (B := wc.heap.size) (by kernel_rfl) ?hB14 [.val (.pointer (some ⟨w.heap.size, 0, none⟩)), .val (.int .i64 (nk : Nat)), .val (.int .u8 (nk : Nat)), .ownAt 0 wc.heap.size [byteN nk], .val (.pointer (some ⟨w.heap.size, 1, none⟩)), .val (.int .i64 (na : Nat)), .val (.int .u64 (na : Nat)), .bsAt 0 (vput na), .fxOwn 0 wc.heap.size ([byteN nk] ++ vput na), .ownAt 1 wc.heap.size ([byteN nk] ++ vput na)] [8] (fun _ _ => True) (T := ?T14) (by kernel_rfl) ?hSt14 ?h014 ?hT14 ?hask14 ?hend14
          case hB14 =>
            exact Nat.le_refl _
          case hSt14 =>
            exact fun _ _ _ _ _ => trivial
          case h014 =>
            trivial
          case hT14 =>
            intro vs
            simp only [fill, Act.put, List.setIfInBounds_toArray, List.set_cons_succ, List.set_cons_zero, Nat.reduceAdd]
            exact rfl
          case hask14 =>
            refine askX_cons (fun vs w1 s hlo hhi hb hst hd hin => ?_) ?_; (focus (clear hlo hhi hst hin; simp only [DepX, Region.binds, SxI, List.getD_cons_zero, List.getD_cons_succ, Sx.av_val, Sx.av_valAt, Sx.av_fxAt, Sx.av_bsAt, Sx.av_ownAt, Sx.av_fxOwn, Sx.av_at, Sx.av_fx, Sx.av_on, Sx.av_fxOn, and_true] at hd; go_simp; exact givx_pure rfl rfl))
            refine askX_cons (fun vs w1 s hlo hhi hb hst hd hin => ?_) ?_
            · clear hlo hhi hst
              simp only [DepX, Region.binds, SxI, List.getD_cons_zero, List.getD_cons_succ, Sx.av_val, Sx.av_valAt, Sx.av_fxAt, Sx.av_bsAt, Sx.av_ownAt, Sx.av_fxOwn, Sx.av_at, Sx.av_fx, Sx.av_on, Sx.av_fxOn, and_true] at hd
              have c0 := (hK.below hb hkl).cell 0
              simp only [List.getElem?_toArray, List.getElem?_cons_zero, List.getElem?_cons_succ] at c0
              go_simp
              exact givx_pure rfl rfl
            refine askX_cons (fun vs w1 s hlo hhi hb hst hd hin => ?_) ?_; (focus (clear hlo hhi hst hin; simp only [DepX, Region.binds, SxI, List.getD_cons_zero, List.getD_cons_succ, Sx.av_val, Sx.av_valAt, Sx.av_fxAt, Sx.av_bsAt, Sx.av_ownAt, Sx.av_fxOwn, Sx.av_at, Sx.av_fx, Sx.av_on, Sx.av_fxOn, and_true] at hd; go_simp; exact givx_pure rfl rfl))
            refine askX_cons (fun vs w1 s hlo hhi hb hst hd hin => ?_) ?_
            · obtain rfl : s = 0 := Nat.le_antisymm hhi hlo
              clear hlo hhi
              have hst : True := hst
              simp only [DepX, Region.binds, SxI, List.getD_cons_zero, List.getD_cons_succ, Sx.av_val, Sx.av_valAt, Sx.av_fxAt, Sx.av_bsAt, Sx.av_ownAt, Sx.av_fxOwn, Sx.av_at, Sx.av_fx, Sx.av_on, Sx.av_fxOn, and_true] at hd
              have hle := hb.size
              go_simp
              exact givx_value rfl ((Below.refl _ _).alloc (Nat.le_refl _) _) ⟨_, _, _, rfl, Ob.lit rfl HC.out rfl hle (by omega)⟩
            refine askX_cons (fun vs w1 s hlo hhi hb hst hd hin => ?_) ?_; (focus (clear hlo hhi hst hin; simp only [DepX, Region.binds, SxI, List.getD_cons_zero, List.getD_cons_succ, Sx.av_val, Sx.av_valAt, Sx.av_fxAt, Sx.av_bsAt, Sx.av_ownAt, Sx.av_fxOwn, Sx.av_at, Sx.av_fx, Sx.av_on, Sx.av_fxOn, and_true] at hd; go_simp; exact givx_pure rfl rfl))
            refine askX_cons (fun vs w1 s hlo hhi hb hst hd hin => ?_) ?_
            · clear hlo hhi hst
              simp only [DepX, Region.binds, SxI, List.getD_cons_zero, List.getD_cons_succ, Sx.av_val, Sx.av_valAt, Sx.av_fxAt, Sx.av_bsAt, Sx.av_ownAt, Sx.av_fxOwn, Sx.av_at, Sx.av_fx, Sx.av_on, Sx.av_fxOn, and_true] at hd
              have c0 := (hK.below hb hkl).cell 1
              simp only [List.getElem?_toArray, List.getElem?_cons_zero, List.getElem?_cons_succ] at c0
              go_simp
              exact givx_pure rfl rfl
            refine askX_cons (fun vs w1 s hlo hhi hb hst hd hin => ?_) ?_; (focus (clear hlo hhi hst hin; simp only [DepX, Region.binds, SxI, List.getD_cons_zero, List.getD_cons_succ, Sx.av_val, Sx.av_valAt, Sx.av_fxAt, Sx.av_bsAt, Sx.av_ownAt, Sx.av_fxOwn, Sx.av_at, Sx.av_fx, Sx.av_on, Sx.av_fxOn, and_true] at hd; go_simp; exact givx_pure rfl rfl))
            refine askX_cons (fun vs w1 s hlo hhi hb hst hd hin => ?_) ?_
            · obtain rfl : s = 0 := Nat.le_antisymm hhi hlo
              clear hlo hhi
              have hst : True := hst
              simp only [DepX, Region.binds, SxI, List.getD_cons_zero, List.getD_cons_succ, Sx.av_val, Sx.av_valAt, Sx.av_fxAt, Sx.av_bsAt, Sx.av_ownAt, Sx.av_fxOwn, Sx.av_at, Sx.av_fx, Sx.av_on, Sx.av_fxOn, and_true] at hd
              go_simp
              refine givx_enter ((rvput_any na _ hn64).mono ?_)
              rintro e w2 ⟨Q, c2, rfl, o2, f2⟩
              exact ⟨_, rfl, givx_of rfl f2 ⟨Q, _, c2, rfl, o2.1, o2.cap.1, o2.cap.2, o2.bs⟩⟩
            refine askX_cons (fun vs w1 s hlo hhi hb hst hd hin => ?_) ?_
            · obtain rfl : s = 0 := Nat.le_antisymm hhi hlo
              clear hlo hhi
              have hst : True := hst
              simp only [DepX, Region.binds, SxI, List.getD_cons_zero, List.getD_cons_succ, Sx.av_val, Sx.av_valAt, Sx.av_fxAt, Sx.av_bsAt, Sx.av_ownAt, Sx.av_fxOwn, Sx.av_at, Sx.av_fx, Sx.av_on, Sx.av_fxOn, and_true] at hd
              have hle := hb.size
              obtain ⟨P, n, c1, hv, ho⟩ := hd.1 (by omega)
              obtain ⟨P2, n2, c2, hv2, hl2, hc2, hc3, ho2⟩ := hd.2.1 (by omega)
              have hln := ho.1
              simp only [List.length_singleton] at hln
              subst hln
              have hl3 : n2 ≤ 10 := by rw [← hl2]; exact hvs
              refine wanted_yes (by rfl) ?_
              refine gives_app (.tmp 78) (.tmp 82) rfl (by exact hv) ho (by exact hv2) hl2 ho2 (by omega) (by omega) ?_
              intro A2 c3 w2 o2 g2 _
              exact givx_fx rfl (ho.belowB (Nat.le_refl _) hb.size g2) trivial ⟨_, _, _, rfl, o2⟩
            refine askX_cons (fun vs w1 s hlo hhi hb hst hd hin => ?_) ?_
            · obtain rfl : s = 1 := Nat.le_antisymm hhi hlo
              clear hlo hhi
              have hst : True := hst
              simp only [DepX, Region.binds, SxI, List.getD_cons_zero, List.getD_cons_succ, Sx.av_val, Sx.av_valAt, Sx.av_fxAt, Sx.av_bsAt, Sx.av_ownAt, Sx.av_fxOwn, Sx.av_at, Sx.av_fx, Sx.av_on, Sx.av_fxOn, and_true] at hd
              go_simp
              exact givx_pure rfl (hd.1 (by omega))
            exact askX_nil
          case hend14 =>
            intro vs w1 hb hst hd
            simp only [AllX, SxI, List.getD_cons_zero, List.getD_cons_succ, Sx.av_val, Sx.av_valAt, Sx.av_fxAt, Sx.av_bsAt, Sx.av_ownAt, Sx.av_fxOwn, Sx.av_at, Sx.av_fx, Sx.av_on, Sx.av_fxOn, and_true, Nat.reduceAdd] at hd
            have hlast := hd.2.2.2.2.2.2.2.2.2
            clear hd
            obtain ⟨P, np, cp, hv, own3⟩ := hlast (by decide)
            have bb3 := hb
            generalize vs 9 = v9 at *
            subst hv
            have hln : np = 1 + vsize na := by have := own3.1; rw [List.length_append, List.length_singleton] at this; exact this.symm
            subst hln
            have hK3 := hK.below bb3 hkl
            have hX3 := hX0.step bb3
            have hX00 := hX0
            have hkl3 := hK3.lt
            clear hlast hst hX0 k0 k1 k2 k3
            have k2 := hK3.cell 2
            have k3 := hK3.cell 3
            simp only [List.getElem?_toArray, List.getElem?_cons_zero, List.getElem?_cons_succ] at k2 k3
            cases two
            · have HL2 := Lib.hid (show rBytes r = [byteN nk] ++ vput na ++ r.x by rw [HL.out]; simp)
              go_wp2_with (at_builtin; refine app rfl (.tmp 91) (.tmp 93) rfl rfl own3 rfl HM.out hX3 (by omega) bb3.size ?_; intro A5 c5 w5 o5 g5 hA5; have b5 : Below wc.heap.size wc w5 := Own.grown own3 bb3 g5)
              go_ret2
              refine ⟨A5, _, c5, by rw [HR.out]; rfl, ?_, hb0.trans (b5.mono hb0.size)⟩
              rw [HR.out]
              show Own w5 w.heap.size A5 _ c5 (rBytes r)
              rw [HL2.out]
              exact Ob.mono o5 hb0.size
            · have HL2 := Lib.hid (show rBytes r = [byteN nk] ++ vput na ++ vput nb ++ r.x by rw [HL.out]; simp)
              have e3 : IntKind.u64.wrap (nb : Int) = (nb : Int) := IntWalk.u64_in _ (by omega)
              go_wp2_with fail
              refine (rvput_any nb _ hnb64).mono ?_
              rintro e w5 ⟨A5, c5, rfl, o5, b5⟩
              have o45 := Ob.step own3 b5
              have bb5 := bb3.trans (b5.mono bb3.size)
              have k3' := (hK3.below b5 hkl3).cell 3
              have hX5 := hX3.step b5
              simp only [List.getElem?_toArray, List.getElem?_cons_zero, List.getElem?_cons_succ] at k3'
              clear k2 k3 e3
              go_wp2_with (first
                | (at_builtin; refine app rfl (.tmp 85) (.tmp 89) rfl rfl o45 rfl rfl o5.bs (by omega) bb5.size ?_; intro A6 c6 w6 o6 g6 hA6; have b6 : Below wc.heap.size wc w6 := Own.grown o45 bb5 g6; have k36 := (hK.below b6 hkl).cell 3; have hX6 := hX00.step b6; simp only [List.getElem?_toArray, List.getElem?_cons_zero, List.getElem?_cons_succ] at k36)
                | (at_builtin; refine app rfl (.tmp 91) (.tmp 93) rfl rfl o6 rfl HM.out hX6 (by omega) b6.size ?_; intro A7 c7 w7 o7 g7 hA7; have b7 : Below wc.heap.size wc w7 := Own.grown o6 b6 g7))
              go_ret2
              refine ⟨A7, _, c7, by rw [HR.out]; rfl, ?_, hb0.trans (b7.mono hb0.size)⟩
              rw [HR.out]
              show Own w7 w.heap.size A7 _ c7 (rBytes r)
              rw [HL2.out]
              exact Ob.mono o7 hb0.size
end Go.Proofs.Ytcgkoojegopfnaa
