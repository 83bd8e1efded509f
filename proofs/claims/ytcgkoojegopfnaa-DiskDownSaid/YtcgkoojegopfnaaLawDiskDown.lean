/- The walk of the law DiskDown. -/
import Derived.Test.YtcgkoojegopfnaaLawDiskTwice
import Derived.Test.YtcgkoojegopfnaaRegS
namespace Go.Proofs.Ytcgkoojegopfnaa
open Go.RowKit
set_option linter.unusedSimpArgs false
set_option linter.unusedVariables false

theorem Touch.belowB {w w' : World} {B g : Nat} {q : Option Nat} (h : Touch w w' g q) (hg : B ≤ g) (hq : ∀ k, q = some k → B ≤ k) (hB : B ≤ w.heap.size) : Below B w w' :=
  ⟨h.os, h.tape, h.output, h.size, fun k hk => h.block k (by omega) (by omega) (fun e => by have := hq k e.symm; omega)⟩

theorem down1 (a b : List UInt8) (s : Nat) (h : a.length = s) (k : Int) : dSync ⟨a ++ b, s, false, true, k⟩ = (⟨a ++ b.take (min k.toNat b.length), s + min k.toNat b.length, true, false, 0⟩, 30) := by
  subst h
  unfold dSync
  simp only [Bool.false_eq_true, if_false, if_true]
  rw [Prod.mk.injEq]
  refine ⟨?_, rfl⟩
  unfold dCrash dStay
  have e : (a ++ b).length - a.length = b.length := by rw [List.length_append]; omega
  simp only [e]
  rw [List.take_append, List.take_of_length_le (by omega)]
  congr 3
  omega
theorem down2 (a b : List UInt8) (s : Nat) (h : a.length + b.length ≤ 65536) : dAppend ⟨a, s, false, false, 0⟩ b = (⟨a ++ b, s, false, false, 0⟩, 0) := twice5 a b s h
theorem down3 (p : List UInt8) (s : Nat) (x : List UInt8) : dAppend ⟨p, s, true, false, 0⟩ x = (⟨p, s, true, false, 0⟩, 30) := rfl
theorem down4 (p : List UInt8) (s : Nat) : dSync ⟨p, s, true, false, 0⟩ = (⟨p, s, true, false, 0⟩, 30) := rfl
theorem down5 (p : List UInt8) (s : Nat) (k : Int) : dCut ⟨p, s, true, false, 0⟩ k = (⟨p, s, true, false, 0⟩, 30) := rfl
theorem down6 (a b : List UInt8) (s m : Nat) (h : a.length = m) : dCut ⟨a ++ b, s, false, false, 0⟩ (m : Int) = (⟨a, m, false, false, 0⟩, 0) := by
  subst h
  unfold dCut
  simp only [Bool.false_eq_true, if_false]
  rw [if_neg (by rw [List.length_append]; omega)]
  simp
theorem down7 (a : List UInt8) (s : Nat) : dCut ⟨a, s, false, false, 0⟩ (-1) = (⟨a, s, false, false, 0⟩, 1) := by
  unfold dCut
  simp
theorem down8 (p : List UInt8) (s : Nat) : dUp ⟨p, s, false, false, 0⟩ = (⟨p, s, false, false, 0⟩, 31) := rfl
theorem down9 (p : List UInt8) (s : Nat) (k : Int) : dDoom ⟨p, s, false, false, 0⟩ k = ⟨p, s, false, true, k⟩ := rfl

set_option maxRecDepth 100000 in
set_option maxHeartbeats 3200000 in
theorem diskDown_walk (w : World) (A : Option Addr) (la : List UInt8) (na ca : Nat) (hna : la.length = na) (hca : na ≤ ca) (hma : ca ≤ maxLen) (hA : Bs w w.heap.size A la)
    (B : Option Addr) (lb : List UInt8) (nb cb : Nat) (hnb : lb.length = nb) (hcb : nb ≤ cb) (hmb : cb ≤ maxLen) (hB : Bs w w.heap.size B lb) (keep : Int) (hkeep : -9223372036854775808 ≤ keep ∧ keep ≤ 9223372036854775807) :
    Calls Try.prog 5 #[.slice A na ca, .slice B nb cb, .int .i64 keep] w fun e w' => e = .returned (.bool true) ∧ Below w.heap.size w w' := by
  unfold maxLen at hma hmb
  obtain ⟨m, hmm⟩ : ∃ m, m = min na 3000 := ⟨_, rfl⟩
  have hlm : (la.take 3000).length = m := by rw [List.length_take]; omega
  obtain ⟨mb, hmmb⟩ : ∃ mb, mb = min nb 3000 := ⟨_, rfl⟩
  have hlmb : (lb.take 3000).length = mb := by rw [List.length_take]; omega
  have HM0 := Lib.hid hmm
  have HMB0 := Lib.hid hmmb
  have hm3 : m ≤ 3000 := by omega
  have hmb3 : mb ≤ 3000 := by omega
  have hmca : m ≤ ca := by omega
  have hmcb : mb ≤ cb := by omega
  have hTA := hA.take 3000
  have hTB := hB.take 3000
  clear hna hnb hmm hmmb hA hB hkeep
  generalize la.take 3000 = a at *
  generalize lb.take 3000 = b at *
  have HM := Lib.hid hlm
  have HMB := Lib.hid hlmb
  clear hlm hlmb
  go_enter Try.func5, Try.ntmps5
  go_wp2_with fail
  refine (shown14_any _).mono ?_
  rintro e w1 ⟨rfl, b1⟩
  go_upto_if 14 with (fail)
  go_cut [0] (fun s wx => s = .slice A m ca ∧ wx = w1)
  case first =>
    by_cases h30 : 3000 < na
    · obtain rfl : m = 3000 := by have := HM0.out; omega
      have h30c : 3000 ≤ ca := by omega
      go_wp2_with fail
      go_meet
      exact ⟨rfl, rfl⟩
    · obtain rfl : m = na := by have := HM0.out; omega
      go_wp2_with fail
      go_meet
      exact ⟨rfl, rfl⟩
  case rest =>
    obtain ⟨rfl, rfl⟩ := hcut
    clear hca HM0
    go_upto_if 19 with (fail)
    go_cut [1] (fun s wx => s = .slice B mb cb ∧ wx = wc)
    case first =>
      by_cases h30 : 3000 < nb
      · obtain rfl : mb = 3000 := by have := HMB0.out; omega
        have h30c : 3000 ≤ cb := by omega
        go_wp2_with fail
        go_meet
        exact ⟨rfl, rfl⟩
      · obtain rfl : mb = nb := by have := HMB0.out; omega
        go_wp2_with fail
        go_meet
        exact ⟨rfl, rfl⟩
    case rest =>
      obtain ⟨rfl, hwc⟩ := hcut
      subst hwc
      clear hcb HMB0
      go_wp2_with fail
      refine (new_any _).mono ?_
      rintro e w2 ⟨g, rfl, d0, f2⟩
      have b2 := chain b1 f2
      have hgb : w.heap.size ≤ g := Nat.le_trans b1.size d0.ge
      have hbb := b1.size
      have hsz2 := f2.size
      have hA2 := (hTA.below b2).more b2.size
      go_wp2_with fail
      refine (append_any _ g none dNew A a m ca _ d0 hsz2 HM.out hA2).mono ?_
      rintro e w3 ⟨q3, rfl, d3, t3, _⟩
      have b3 := Touch.below b2 t3 hgb (by simp)
      rw [twice1 a (by rw [HM.out]; exact hm3)] at d3 ⊢
      have hsz3 := Nat.le_trans hsz2 t3.size
      clear hA2 d0 t3 f2 b2 hsz2
      go_wp2_with fail
      refine (sync_any _ g q3 _ _ d3).mono ?_
      rintro e w4 ⟨q4, rfl, d4, t4, _⟩
      have b4 := Touch.below b3 t4 hgb (fun k hk => Nat.le_trans hbb (d3.qge k hk))
      rw [twice6] at d4 ⊢
      have hsz4 := Nat.le_trans hsz3 t4.size
      clear d3 t4 b3 hsz3
      have hB4 := (hTB.below b4).more b4.size
      go_wp2_with fail
      refine (append_any _ g q4 _ B b mb cb _ d4 hsz4 HMB.out hB4).mono ?_
      rintro e w5 ⟨q5, rfl, d5, t5, _⟩
      have b5 := Touch.below b4 t5 hgb (fun k hk => Nat.le_trans hbb (d4.qge k hk))
      rw [down2 a b _ (by rw [HM.out, HMB.out]; omega)] at d5 ⊢
      have hsz5 := Nat.le_trans hsz4 t5.size
      clear d4 t5 b4 hsz4 hB4
      go_wp2_with fail
      refine (up_any _ g q5 _ _ d5).mono ?_
      rintro e w6 ⟨q6, rfl, d6, t6, _⟩
      have b6 := Touch.below b5 t6 hgb (fun k hk => Nat.le_trans hbb (d5.qge k hk))
      rw [down8] at d6 ⊢
      have hsz6 := Nat.le_trans hsz5 t6.size
      clear d5 t6 b5 hsz5
      go_wp2_with fail
      refine (doom_any _ g q6 _ keep _ d6).mono ?_
      rintro e w7 ⟨q7, rfl, d7, t7, _⟩
      have b7 := Touch.below b6 t7 hgb (fun k hk => Nat.le_trans hbb (d6.qge k hk))
      rw [down9] at d7
      have hsz7 := Nat.le_trans hsz6 t7.size
      clear d6 t7 b6 hsz6
      go_wp2_with fail
      refine (down_any _ g q7 _ _ d7).mono ?_
      rintro e w' ⟨rfl, rfl⟩
      go_wp2_with fail
      refine (sync_any _ g q7 _ _ d7).mono ?_
      rintro e w8 ⟨q8, rfl, d8, t8, _⟩
      have b8 := Touch.below b7 t8 hgb (fun k hk => Nat.le_trans hbb (d7.qge k hk))
      rw [down1 a b _ rfl, HMB.out, HM.out] at d8
      rw [down1 a b _ rfl, HMB.out, HM.out]
      have hsz8 := Nat.le_trans hsz7 t8.size
      clear d7 t8 b7 hsz7
      have hs0 : min (max keep 0) (mb : Int) = ((min keep.toNat mb : Nat) : Int) := by omega
      have hsm : min keep.toNat mb ≤ mb := Nat.min_le_right _ _
      generalize min keep.toNat mb = st at *
      have hpl : (b.take st).length = st := by rw [List.length_take, HMB.out]; omega
      have HBL := Lib.hid hpl
      clear hpl
      have hs0' : (0 : Int) ≤ (st : Int) := by omega
      have hscb : (st : Int) ≤ (cb : Int) := by omega
      have hstn : ((st : Int)).toNat = st := by omega
      have HPL := Lib.hid (show (a ++ b.take st).length = m + st by rw [List.length_append, HM.out, HBL.out])
      have hms : m + st ≤ 6000 := by omega
      obtain ⟨p, hp⟩ : ∃ p, a ++ b.take st = p := ⟨_, rfl⟩
      rw [hp] at d8 HPL
      have HP := Lib.hid hp
      clear hp
      go_wp2_with fail
      refine (down_any _ g q8 _ _ d8).mono ?_
      rintro e w' ⟨rfl, rfl⟩
      have hA8 := (hTA.below b8).more b8.size
      go_wp2_with fail
      refine (append_any _ g q8 _ A a m ca _ d8 hsz8 HM.out hA8).mono ?_
      rintro e w9 ⟨q9, rfl, d9, t9, _⟩
      have b9 := Touch.below b8 t9 hgb (fun k hk => Nat.le_trans hbb (d8.qge k hk))
      rw [down3] at d9 ⊢
      have hsz9 := Nat.le_trans hsz8 t9.size
      clear d8 t9 b8 hsz8 hA8
      go_wp2_with fail
      refine (sync_any _ g q9 _ _ d9).mono ?_
      rintro e w10 ⟨q10, rfl, d10, t10, _⟩
      have b10 := Touch.below b9 t10 hgb (fun k hk => Nat.le_trans hbb (d9.qge k hk))
      rw [down4] at d10 ⊢
      have hsz10 := Nat.le_trans hsz9 t10.size
      clear d9 t10 b9 hsz9
      go_wp2_with fail
      refine (cut_any _ g q10 _ 0 _ d10).mono ?_
      rintro e w11 ⟨q11, rfl, d11, t11, _⟩
      have b11 := Touch.below b10 t11 hgb (fun k hk => Nat.le_trans hbb (d10.qge k hk))
      rw [down5] at d11 ⊢
      have hsz11 := Nat.le_trans hsz10 t11.size
      clear d10 t11 b10 hsz10
      have hA11 := hTA.below b11
      have hB11 := hTB.below b11
      go_wp2_with fail
      refine wp_region_invX (B := w11.heap.size) (by kernel_rfl) ?hB13 [.ownAt 0 w11.heap.size [], .val (.slice A m ca), .fxOwn 0 w11.heap.size a, .val (.slice B mb cb), .val (.int .i64 (st : Nat)), .val (.slice B st cb), .fxOwn 1 w11.heap.size p, .ownAt 2 w11.heap.size p] [2, 6] (fun _ _ => True) (T := ?T13) (by kernel_rfl) ?hSt13 ?h013 ?hT13 ?hask13 ?hend13
      case hB13 =>
        exact Nat.le_refl _
      case hSt13 =>
        exact fun _ _ _ _ _ => trivial
      case h013 =>
        trivial
      case hT13 =>
        intro vs
        simp only [fill, Act.put, List.setIfInBounds_toArray, List.set_cons_succ, List.set_cons_zero, Nat.reduceAdd]
        exact rfl
      case hask13 =>
        refine askX_cons (fun vs w1 s hlo hhi hb hst hd => ?_) ?_
        · obtain rfl : s = 0 := Nat.le_antisymm hhi hlo
          clear hlo hhi
          have hst : True := hst
          simp only [DepX, Region.binds, SxI, List.getD_cons_zero, List.getD_cons_succ, Sx.av_val, Sx.av_valAt, Sx.av_fxAt, Sx.av_bsAt, Sx.av_ownAt, Sx.av_fxOwn, Sx.av_at, Sx.av_fx, and_true] at hd
          go_simp
          exact givx_value rfl ((Below.refl _ _).alloc (Nat.le_refl _) _) ⟨_, _, _, rfl, Ob.empty hb.size⟩
        refine askX_cons (fun vs w1 s hlo hhi hb hst hd => ?_) ?_; (focus (clear hlo hhi hst; simp only [DepX, Region.binds, SxI, List.getD_cons_zero, List.getD_cons_succ, Sx.av_val, Sx.av_valAt, Sx.av_fxAt, Sx.av_bsAt, Sx.av_ownAt, Sx.av_fxOwn, Sx.av_at, Sx.av_fx, and_true] at hd; go_simp; exact givx_pure rfl rfl))
        refine askX_cons (fun vs w1 s hlo hhi hb hst hd => ?_) ?_
        · obtain rfl : s = 0 := Nat.le_antisymm hhi hlo
          clear hlo hhi
          have hst : True := hst
          simp only [DepX, Region.binds, SxI, List.getD_cons_zero, List.getD_cons_succ, Sx.av_val, Sx.av_valAt, Sx.av_fxAt, Sx.av_bsAt, Sx.av_ownAt, Sx.av_fxOwn, Sx.av_at, Sx.av_fx, and_true] at hd
          have hle := hb.size
          obtain ⟨P, n, c, hv, ho⟩ := hd.1 (by omega)
          have hln := ho.1
          simp only [List.nil_append, List.length_append, List.length_nil, HM.out, HBL.out] at hln
          refine wanted_yes (by rfl) ?_
          refine gives_app (.tmp 87) (.tmp 88) rfl (by exact hv) ho (by exact hd.2) HM.out ((hA11.more b11.size).below hb) (by omega) (by omega) ?_
          intro A2 c2 w2 o2 g2
          exact givx_fx rfl (ho.belowB (Nat.le_refl _) hb.size g2) trivial ⟨_, _, _, rfl, by simpa using o2⟩
        iterate 3 (refine askX_cons (fun vs w1 s hlo hhi hb hst hd => ?_) ?_; (focus (clear hlo hhi hst; simp only [DepX, Region.binds, SxI, List.getD_cons_zero, List.getD_cons_succ, Sx.av_val, Sx.av_valAt, Sx.av_fxAt, Sx.av_bsAt, Sx.av_ownAt, Sx.av_fxOwn, Sx.av_at, Sx.av_fx, and_true] at hd; go_simp; exact givx_pure rfl rfl)))
        refine askX_cons (fun vs w1 s hlo hhi hb hst hd => ?_) ?_
        · obtain rfl : s = 1 := Nat.le_antisymm hhi hlo
          clear hlo hhi
          have hst : True := hst
          simp only [DepX, Region.binds, SxI, List.getD_cons_zero, List.getD_cons_succ, Sx.av_val, Sx.av_valAt, Sx.av_fxAt, Sx.av_bsAt, Sx.av_ownAt, Sx.av_fxOwn, Sx.av_at, Sx.av_fx, and_true] at hd
          have hle := hb.size
          obtain ⟨P, n, c, hv, ho⟩ := hd.1 (by omega)
          have hln := ho.1
          simp only [List.nil_append, List.length_append, List.length_nil, HM.out, HBL.out] at hln
          refine wanted_yes (by rfl) ?_
          refine gives_app (.tmp 89) (.tmp 92) rfl (by exact hv) ho (by exact hd.2.1) HBL.out (((hB11.more b11.size).take st).below hb) (by omega) (by omega) ?_
          intro A2 c2 w2 o2 g2
          exact givx_fx rfl (ho.belowB (Nat.le_refl _) hb.size g2) trivial ⟨_, _, _, rfl, by rw [HP.out] at o2; exact o2⟩
        refine askX_cons (fun vs w1 s hlo hhi hb hst hd => ?_) ?_
        · obtain rfl : s = 2 := Nat.le_antisymm hhi hlo
          clear hlo hhi
          have hst : True := hst
          simp only [DepX, Region.binds, SxI, List.getD_cons_zero, List.getD_cons_succ, Sx.av_val, Sx.av_valAt, Sx.av_fxAt, Sx.av_bsAt, Sx.av_ownAt, Sx.av_fxOwn, Sx.av_at, Sx.av_fx, and_true] at hd
          go_simp
          exact givx_pure rfl (hd.1 (by omega))
        exact askX_nil
      case hend13 =>
        intro vs w1 hb hst hd
        simp only [AllX, SxI, List.getD_cons_zero, List.getD_cons_succ, Sx.av_val, Sx.av_valAt, Sx.av_fxAt, Sx.av_bsAt, Sx.av_ownAt, Sx.av_fxOwn, Sx.av_at, Sx.av_fx, and_true, Nat.reduceAdd] at hd
        have hlast := hd.2.2.2.2.2.2.2
        clear hd
        obtain ⟨P, np, cp, hv, hp⟩ := hlast (by decide)
        have b13 := chain b11 hb
        have hsz13 := Nat.le_trans hsz11 hb.size
        have d13 := d11.step hb
        clear hlast hst b11 d11
        generalize vs 7 = v7 at *
        subst hv
        go_wp2_with fail
        obtain rfl : np = m + st := by have := hp.1; have := HPL.out; omega
        clear hA11 hsz11
        have hA13 := hTA.below b13
        have hB13 := hTB.below b13
        have hs13 := b13.size
        refine wp_region_invX (B := w.heap.size) (by kernel_rfl) ?hB14 [.val (.pointer (some ⟨g, 0, none⟩)), .bsAt 0 p, .valAt 0 0 (.string (strOf p)), .val (.slice P (m + st) cp), .valAt 0 0 (.string (strOf p)), .val (.bool false), .val (.bool false), .val (.pointer (some ⟨g, 0, none⟩)), .valAt 0 0 (.int .i64 (m + st : Nat)), .val (.slice P (m + st) cp), .val (.int .i64 (m + st : Nat)), .val (.bool false), .val (.bool false), .val (.bool false), .val (.pointer (some ⟨g, 0, none⟩)), .fxAt 0 (.int .i64 0), .val (.bool false), .val (.bool false), .val (.bool false), .val (.pointer (some ⟨g, 0, none⟩)), .val (.slice B mb cb), .fxAt 1 (.int .i64 0), .val (.bool false), .val (.bool false)] [15, 21] (fun s wx => (∃ q, Dk wx wc.heap.size g q (match s with | 0 => ⟨p, m + st, true, false, 0⟩ | 1 => ⟨p, m + st, false, false, 0⟩ | _ => ⟨p ++ b, m + st, false, false, 0⟩)) ∧ (s = 0 → Own wx w11.heap.size P (m + st) cp p)) (T := ?T14) (by kernel_rfl) ?hSt14 ?h014 ?hT14 ?hask14 ?hend14
        case hB14 =>
          exact b13.size
        case hSt14 =>
          exact fun s x y hb h => ⟨⟨h.1.choose, h.1.choose_spec.step hb⟩, fun e => (h.2 e).step hb⟩
        case h014 =>
          exact ⟨⟨q11, d13⟩, fun _ => hp⟩
        case hT14 =>
          intro vs
          simp only [fill, Act.put, List.setIfInBounds_toArray, List.set_cons_succ, List.set_cons_zero, Nat.reduceAdd]
          exact rfl
        case hask14 =>
          refine askX_cons (fun vs w1 s hlo hhi hb hst hd => ?_) ?_; (focus (clear hlo hhi hst; simp only [DepX, Region.binds, SxI, List.getD_cons_zero, List.getD_cons_succ, Sx.av_val, Sx.av_valAt, Sx.av_fxAt, Sx.av_bsAt, Sx.av_ownAt, Sx.av_fxOwn, Sx.av_at, Sx.av_fx, and_true] at hd; go_simp; exact givx_pure rfl rfl))
          refine askX_cons (fun vs w1 s hlo hhi hb hst hd => ?_) ?_
          · obtain rfl : s = 0 := Nat.le_antisymm hhi hlo
            clear hlo hhi
            have hst : (∃ q, Dk w1 wc.heap.size g q ⟨p, m + st, true, false, 0⟩) ∧ (0 = 0 → Own w1 w11.heap.size P (m + st) cp p) := hst
            obtain ⟨⟨q0, dk⟩, hx⟩ := hst
            have hqq := dk.qge
            simp only [DepX, Region.binds, SxI, List.getD_cons_zero, List.getD_cons_succ, Sx.av_val, Sx.av_valAt, Sx.av_fxAt, Sx.av_bsAt, Sx.av_ownAt, Sx.av_fxOwn, Sx.av_at, Sx.av_fx, and_true] at hd
            go_simp
            refine givx_enter ((bytes_any _ g q0 _ _ dk).mono ?_)
            rintro e w2 ⟨Q, n2, c2, rfl, o2, f2⟩
            exact ⟨_, rfl, givx_of rfl f2 ⟨Q, _, c2, rfl, o2.1, o2.cap.1, o2.cap.2, o2.bs⟩⟩
          refine askX_cons (fun vs w1 s hlo hhi hb hst hd => ?_) ?_
          · obtain rfl : s = 0 := Nat.le_antisymm hhi hlo
            clear hlo hhi
            have hst : (∃ q, Dk w1 wc.heap.size g q ⟨p, m + st, true, false, 0⟩) ∧ (0 = 0 → Own w1 w11.heap.size P (m + st) cp p) := hst
            obtain ⟨⟨q0, dk⟩, hx⟩ := hst
            have hqq := dk.qge
            simp only [DepX, Region.binds, SxI, List.getD_cons_zero, List.getD_cons_succ, Sx.av_val, Sx.av_valAt, Sx.av_fxAt, Sx.av_bsAt, Sx.av_ownAt, Sx.av_fxOwn, Sx.av_at, Sx.av_fx, and_true] at hd
            obtain ⟨A1, n1, c1, h1, h2, h3, h4, h5⟩ := hd (Nat.le_refl 0)
            clear hd
            have h6 := conv (c := c1) h2 h5
            clear h2 h3 h4 h5
            go_simp
            exact givx_pure rfl rfl
          refine askX_cons (fun vs w1 s hlo hhi hb hst hd => ?_) ?_; (focus (clear hlo hhi hst; simp only [DepX, Region.binds, SxI, List.getD_cons_zero, List.getD_cons_succ, Sx.av_val, Sx.av_valAt, Sx.av_fxAt, Sx.av_bsAt, Sx.av_ownAt, Sx.av_fxOwn, Sx.av_at, Sx.av_fx, and_true] at hd; go_simp; exact givx_pure rfl rfl))
          refine askX_cons (fun vs w1 s hlo hhi hb hst hd => ?_) ?_
          · obtain rfl : s = 0 := Nat.le_antisymm hhi hlo
            clear hlo hhi
            have hst : (∃ q, Dk w1 wc.heap.size g q ⟨p, m + st, true, false, 0⟩) ∧ (0 = 0 → Own w1 w11.heap.size P (m + st) cp p) := hst
            obtain ⟨⟨q0, dk⟩, hx⟩ := hst
            have hqq := dk.qge
            simp only [DepX, Region.binds, SxI, List.getD_cons_zero, List.getD_cons_succ, Sx.av_val, Sx.av_valAt, Sx.av_fxAt, Sx.av_bsAt, Sx.av_ownAt, Sx.av_fxOwn, Sx.av_at, Sx.av_fx, and_true] at hd
            have h6 := conv (c := cp) (hx rfl).1 (hx rfl).bs
            go_simp
            exact givx_pure rfl rfl
          iterate 3 (refine askX_cons (fun vs w1 s hlo hhi hb hst hd => ?_) ?_; (focus (clear hlo hhi hst; simp only [DepX, Region.binds, SxI, List.getD_cons_zero, List.getD_cons_succ, Sx.av_val, Sx.av_valAt, Sx.av_fxAt, Sx.av_bsAt, Sx.av_ownAt, Sx.av_fxOwn, Sx.av_at, Sx.av_fx, and_true] at hd; go_simp; exact givx_pure rfl rfl)))
          refine askX_cons (fun vs w1 s hlo hhi hb hst hd => ?_) ?_
          · obtain rfl : s = 0 := Nat.le_antisymm hhi hlo
            clear hlo hhi
            have hst : (∃ q, Dk w1 wc.heap.size g q ⟨p, m + st, true, false, 0⟩) ∧ (0 = 0 → Own w1 w11.heap.size P (m + st) cp p) := hst
            obtain ⟨⟨q0, dk⟩, hx⟩ := hst
            have hqq := dk.qge
            simp only [DepX, Region.binds, SxI, List.getD_cons_zero, List.getD_cons_succ, Sx.av_val, Sx.av_valAt, Sx.av_fxAt, Sx.av_bsAt, Sx.av_ownAt, Sx.av_fxOwn, Sx.av_at, Sx.av_fx, and_true] at hd
            go_simp
            refine givx_enter ((synced_any _ g q0 _ _ dk).mono ?_)
            rintro e w2 ⟨rfl, rfl⟩
            exact ⟨_, rfl, givx_of rfl (Below.refl _ _) rfl⟩
          iterate 6 (refine askX_cons (fun vs w1 s hlo hhi hb hst hd => ?_) ?_; (focus (clear hlo hhi hst; simp only [DepX, Region.binds, SxI, List.getD_cons_zero, List.getD_cons_succ, Sx.av_val, Sx.av_valAt, Sx.av_fxAt, Sx.av_bsAt, Sx.av_ownAt, Sx.av_fxOwn, Sx.av_at, Sx.av_fx, and_true] at hd; go_simp; exact givx_pure rfl rfl)))
          refine askX_cons (fun vs w1 s hlo hhi hb hst hd => ?_) ?_
          · obtain rfl : s = 0 := Nat.le_antisymm hhi hlo
            clear hlo hhi
            have hst : (∃ q, Dk w1 wc.heap.size g q ⟨p, m + st, true, false, 0⟩) ∧ (0 = 0 → Own w1 w11.heap.size P (m + st) cp p) := hst
            obtain ⟨⟨q0, dk⟩, hx⟩ := hst
            have hqq := dk.qge
            simp only [DepX, Region.binds, SxI, List.getD_cons_zero, List.getD_cons_succ, Sx.av_val, Sx.av_valAt, Sx.av_fxAt, Sx.av_bsAt, Sx.av_ownAt, Sx.av_fxOwn, Sx.av_at, Sx.av_fx, and_true] at hd
            have hle := hb.size
            go_simp
            refine givx_enter ((up_any _ g q0 _ _ dk).mono ?_)
            rintro e w2 ⟨q2, rfl, d2, t2, _⟩
            exact ⟨_, rfl, givx_fx rfl (t2.belowB hgb (fun k hk => Nat.le_trans hbb (hqq k hk)) (by omega)) ⟨⟨q2, d2⟩, nofun⟩ rfl⟩
          iterate 5 (refine askX_cons (fun vs w1 s hlo hhi hb hst hd => ?_) ?_; (focus (clear hlo hhi hst; simp only [DepX, Region.binds, SxI, List.getD_cons_zero, List.getD_cons_succ, Sx.av_val, Sx.av_valAt, Sx.av_fxAt, Sx.av_bsAt, Sx.av_ownAt, Sx.av_fxOwn, Sx.av_at, Sx.av_fx, and_true] at hd; go_simp; exact givx_pure rfl rfl)))
          refine askX_cons (fun vs w1 s hlo hhi hb hst hd => ?_) ?_
          · obtain rfl : s = 1 := Nat.le_antisymm hhi hlo
            clear hlo hhi
            have hst : (∃ q, Dk w1 wc.heap.size g q ⟨p, m + st, false, false, 0⟩) ∧ (1 = 0 → Own w1 w11.heap.size P (m + st) cp p) := hst
            obtain ⟨⟨q0, dk⟩, hx⟩ := hst
            have hqq := dk.qge
            simp only [DepX, Region.binds, SxI, List.getD_cons_zero, List.getD_cons_succ, Sx.av_val, Sx.av_valAt, Sx.av_fxAt, Sx.av_bsAt, Sx.av_ownAt, Sx.av_fxOwn, Sx.av_at, Sx.av_fx, and_true] at hd
            have hle := hb.size
            go_simp
            refine givx_enter ((append_any _ g q0 _ B b mb cb _ dk (by omega) HMB.out ((hB13.below hb).more (Nat.le_trans hs13 hle))).mono ?_)
            rintro e w2 ⟨q2, rfl, d2, t2, _⟩
            rw [twice5 p b _ (by rw [HPL.out, HMB.out]; omega)] at d2 ⊢
            exact ⟨_, rfl, givx_fx rfl (t2.belowB hgb (fun k hk => Nat.le_trans hbb (hqq k hk)) (by omega)) ⟨⟨q2, d2⟩, nofun⟩ rfl⟩
          iterate 2 (refine askX_cons (fun vs w1 s hlo hhi hb hst hd => ?_) ?_; (focus (clear hlo hhi hst; simp only [DepX, Region.binds, SxI, List.getD_cons_zero, List.getD_cons_succ, Sx.av_val, Sx.av_valAt, Sx.av_fxAt, Sx.av_bsAt, Sx.av_ownAt, Sx.av_fxOwn, Sx.av_at, Sx.av_fx, and_true] at hd; go_simp; exact givx_pure rfl rfl)))
          exact askX_nil
        case hend14 =>
          intro vs w1 hb hst hd
          simp only [AllX, SxI, List.getD_cons_zero, List.getD_cons_succ, Sx.av_val, Sx.av_valAt, Sx.av_fxAt, Sx.av_bsAt, Sx.av_ownAt, Sx.av_fxOwn, Sx.av_at, Sx.av_fx, and_true, Nat.reduceAdd] at hd
          have hlast := hd.2.2.2.2.2.2.2.2.2.2.2.2.2.2.2.2.2.2.2.2.2.2.2
          clear hd
          have b14 := b13.trans hb
          obtain ⟨⟨q14, d14⟩, _⟩ := hst
          clear hp b13 d13 hA13 hB13 hb
          generalize vs 23 = v14 at *
          subst hlast
          go_wp2_with fail
          have hA14 := hTA.below b14
          have HPB := Lib.hid (show (p ++ b).length = m + st + mb by rw [List.length_append, HPL.out, HMB.out])
          have HPA := Lib.hid (show a ++ (b.take st ++ b) = p ++ b by rw [← HP.out, List.append_assoc])
          have hs14 := b14.size
          refine wp_region_invX (B := w.heap.size) (by kernel_rfl) ?hB16 [.val (.pointer (some ⟨g, 0, none⟩)), .fxAt 0 (.int .i64 0), .val (.bool true), .val (.bool true), .val (.pointer (some ⟨g, 0, none⟩)), .valAt 1 1 (.int .i64 (m + st + mb : Nat)), .val (.slice P (m + st) cp), .val (.int .i64 (m + st : Nat)), .val (.slice B mb cb), .val (.int .i64 mb), .val (.int .i64 (m + st + mb : Nat)), .val (.bool true), .val (.bool true), .val (.bool true), .val (.pointer (some ⟨g, 0, none⟩)), .val (.slice A m ca), .val (.int .i64 m), .fxAt 1 (.int .i64 0), .val (.bool true), .val (.bool true), .val (.bool true), .val (.pointer (some ⟨g, 0, none⟩)), .bsAt 2 a, .valAt 2 2 (.string (strOf a)), .val (.slice A m ca), .val (.string (strOf a)), .val (.bool true), .val (.bool true), .val (.bool true), .val (.pointer (some ⟨g, 0, none⟩)), .fxAt 2 (.int .i64 1), .val (.bool true), .val (.bool true), .val (.bool true)] [1, 17, 30] (fun s wx => ∃ q, Dk wx wc.heap.size g q (match s with | 0 => ⟨p ++ b, m + st, false, false, 0⟩ | 1 => ⟨p ++ b, m + st + mb, false, false, 0⟩ | 2 => ⟨a, m, false, false, 0⟩ | _ => ⟨a, m, false, false, 0⟩)) (T := ?T16) (by kernel_rfl) ?hSt16 ?h016 ?hT16 ?hask16 ?hend16
          case hB16 =>
            exact b14.size
          case hSt16 =>
            exact fun s x y hb h => ⟨h.choose, h.choose_spec.step hb⟩
          case h016 =>
            exact ⟨q14, d14⟩
          case hT16 =>
            intro vs
            simp only [fill, Act.put, List.setIfInBounds_toArray, List.set_cons_succ, List.set_cons_zero, Nat.reduceAdd]
            exact rfl
          case hask16 =>
            refine askX_cons (fun vs w1 s hlo hhi hb hst hd => ?_) ?_; (focus (clear hlo hhi hst; simp only [DepX, Region.binds, SxI, List.getD_cons_zero, List.getD_cons_succ, Sx.av_val, Sx.av_valAt, Sx.av_fxAt, Sx.av_bsAt, Sx.av_ownAt, Sx.av_fxOwn, Sx.av_at, Sx.av_fx, and_true] at hd; go_simp; exact givx_pure rfl rfl))
            refine askX_cons (fun vs w1 s hlo hhi hb hst hd => ?_) ?_
            · obtain rfl : s = 0 := Nat.le_antisymm hhi hlo
              clear hlo hhi
              have hst : ∃ q, Dk w1 wc.heap.size g q ⟨p ++ b, m + st, false, false, 0⟩ := hst
              obtain ⟨q0, dk⟩ := hst
              have hqq := dk.qge
              simp only [DepX, Region.binds, SxI, List.getD_cons_zero, List.getD_cons_succ, Sx.av_val, Sx.av_valAt, Sx.av_fxAt, Sx.av_bsAt, Sx.av_ownAt, Sx.av_fxOwn, Sx.av_at, Sx.av_fx, and_true] at hd
              have hle := hb.size
              go_simp
              refine givx_enter ((sync_any _ g q0 _ _ dk).mono ?_)
              rintro e w2 ⟨q2, rfl, d2, t2, _⟩
              rw [twice6, HPB.out] at d2
              exact ⟨_, rfl, givx_fx rfl (t2.belowB hgb (fun k hk => Nat.le_trans hbb (hqq k hk)) (by omega)) ⟨q2, d2⟩ rfl⟩
            iterate 3 (refine askX_cons (fun vs w1 s hlo hhi hb hst hd => ?_) ?_; (focus (clear hlo hhi hst; simp only [DepX, Region.binds, SxI, List.getD_cons_zero, List.getD_cons_succ, Sx.av_val, Sx.av_valAt, Sx.av_fxAt, Sx.av_bsAt, Sx.av_ownAt, Sx.av_fxOwn, Sx.av_at, Sx.av_fx, and_true] at hd; go_simp; exact givx_pure rfl rfl)))
            refine askX_cons (fun vs w1 s hlo hhi hb hst hd => ?_) ?_
            · obtain rfl : s = 1 := Nat.le_antisymm hhi hlo
              clear hlo hhi
              have hst : ∃ q, Dk w1 wc.heap.size g q ⟨p ++ b, m + st + mb, false, false, 0⟩ := hst
              obtain ⟨q0, dk⟩ := hst
              have hqq := dk.qge
              simp only [DepX, Region.binds, SxI, List.getD_cons_zero, List.getD_cons_succ, Sx.av_val, Sx.av_valAt, Sx.av_fxAt, Sx.av_bsAt, Sx.av_ownAt, Sx.av_fxOwn, Sx.av_at, Sx.av_fx, and_true] at hd
              go_simp
              refine givx_enter ((synced_any _ g q0 _ _ dk).mono ?_)
              rintro e w2 ⟨rfl, rfl⟩
              exact ⟨_, rfl, givx_of rfl (Below.refl _ _) rfl⟩
            iterate 4 (refine askX_cons (fun vs w1 s hlo hhi hb hst hd => ?_) ?_; (focus (clear hlo hhi hst; simp only [DepX, Region.binds, SxI, List.getD_cons_zero, List.getD_cons_succ, Sx.av_val, Sx.av_valAt, Sx.av_fxAt, Sx.av_bsAt, Sx.av_ownAt, Sx.av_fxOwn, Sx.av_at, Sx.av_fx, and_true] at hd; go_simp; exact givx_pure rfl rfl)))
            refine askX_cons (fun vs w1 s hlo hhi hb hst hd => ?_) ?_
            · clear hlo hhi hst
              simp only [DepX, Region.binds, SxI, List.getD_cons_zero, List.getD_cons_succ, Sx.av_val, Sx.av_valAt, Sx.av_fxAt, Sx.av_bsAt, Sx.av_ownAt, Sx.av_fxOwn, Sx.av_at, Sx.av_fx, and_true] at hd
              go_simp
              exact givx_pure rfl (by show Value.int .i64 (IntKind.i64.wrap _) = .int .i64 _; rw [IntWalk.i64_in _ (by omega)])
            iterate 6 (refine askX_cons (fun vs w1 s hlo hhi hb hst hd => ?_) ?_; (focus (clear hlo hhi hst; simp only [DepX, Region.binds, SxI, List.getD_cons_zero, List.getD_cons_succ, Sx.av_val, Sx.av_valAt, Sx.av_fxAt, Sx.av_bsAt, Sx.av_ownAt, Sx.av_fxOwn, Sx.av_at, Sx.av_fx, and_true] at hd; go_simp; exact givx_pure rfl rfl)))
            refine askX_cons (fun vs w1 s hlo hhi hb hst hd => ?_) ?_
            · obtain rfl : s = 1 := Nat.le_antisymm hhi hlo
              clear hlo hhi
              have hst : ∃ q, Dk w1 wc.heap.size g q ⟨p ++ b, m + st + mb, false, false, 0⟩ := hst
              obtain ⟨q0, dk⟩ := hst
              have hqq := dk.qge
              simp only [DepX, Region.binds, SxI, List.getD_cons_zero, List.getD_cons_succ, Sx.av_val, Sx.av_valAt, Sx.av_fxAt, Sx.av_bsAt, Sx.av_ownAt, Sx.av_fxOwn, Sx.av_at, Sx.av_fx, and_true] at hd
              have hle := hb.size
              go_simp
              refine givx_enter ((cut_any _ g q0 _ _ _ dk).mono ?_)
              rintro e w2 ⟨q2, rfl, d2, t2, _⟩
              rw [← HPA.out, down6 a _ _ m HM.out] at d2
              rw [← HPA.out, down6 a _ _ m HM.out]
              exact ⟨_, rfl, givx_fx rfl (t2.belowB hgb (fun k hk => Nat.le_trans hbb (hqq k hk)) (by omega)) ⟨q2, d2⟩ rfl⟩
            iterate 4 (refine askX_cons (fun vs w1 s hlo hhi hb hst hd => ?_) ?_; (focus (clear hlo hhi hst; simp only [DepX, Region.binds, SxI, List.getD_cons_zero, List.getD_cons_succ, Sx.av_val, Sx.av_valAt, Sx.av_fxAt, Sx.av_bsAt, Sx.av_ownAt, Sx.av_fxOwn, Sx.av_at, Sx.av_fx, and_true] at hd; go_simp; exact givx_pure rfl rfl)))
            refine askX_cons (fun vs w1 s hlo hhi hb hst hd => ?_) ?_
            · obtain rfl : s = 2 := Nat.le_antisymm hhi hlo
              clear hlo hhi
              have hst : ∃ q, Dk w1 wc.heap.size g q ⟨a, m, false, false, 0⟩ := hst
              obtain ⟨q0, dk⟩ := hst
              have hqq := dk.qge
              simp only [DepX, Region.binds, SxI, List.getD_cons_zero, List.getD_cons_succ, Sx.av_val, Sx.av_valAt, Sx.av_fxAt, Sx.av_bsAt, Sx.av_ownAt, Sx.av_fxOwn, Sx.av_at, Sx.av_fx, and_true] at hd
              go_simp
              refine givx_enter ((bytes_any _ g q0 _ _ dk).mono ?_)
              rintro e w2 ⟨Q, n2, c2, rfl, o2, f2⟩
              exact ⟨_, rfl, givx_of rfl f2 ⟨Q, _, c2, rfl, o2.1, o2.cap.1, o2.cap.2, o2.bs⟩⟩
            refine askX_cons (fun vs w1 s hlo hhi hb hst hd => ?_) ?_
            · obtain rfl : s = 2 := Nat.le_antisymm hhi hlo
              clear hlo hhi
              have hst : ∃ q, Dk w1 wc.heap.size g q ⟨a, m, false, false, 0⟩ := hst
              obtain ⟨q0, dk⟩ := hst
              have hqq := dk.qge
              simp only [DepX, Region.binds, SxI, List.getD_cons_zero, List.getD_cons_succ, Sx.av_val, Sx.av_valAt, Sx.av_fxAt, Sx.av_bsAt, Sx.av_ownAt, Sx.av_fxOwn, Sx.av_at, Sx.av_fx, and_true] at hd
              obtain ⟨A1, n1, c1, h1, h2, h3, h4, h5⟩ := hd.1 (Nat.le_refl 2)
              replace hd := hd.2
              have h6 := conv (c := c1) h2 h5
              clear h2 h3 h4 h5
              go_simp
              exact givx_pure rfl rfl
            refine askX_cons (fun vs w1 s hlo hhi hb hst hd => ?_) ?_; (focus (clear hlo hhi hst; simp only [DepX, Region.binds, SxI, List.getD_cons_zero, List.getD_cons_succ, Sx.av_val, Sx.av_valAt, Sx.av_fxAt, Sx.av_bsAt, Sx.av_ownAt, Sx.av_fxOwn, Sx.av_at, Sx.av_fx, and_true] at hd; go_simp; exact givx_pure rfl rfl))
            refine askX_cons (fun vs w1 s hlo hhi hb hst hd => ?_) ?_
            · clear hlo hhi hst
              simp only [DepX, Region.binds, SxI, List.getD_cons_zero, List.getD_cons_succ, Sx.av_val, Sx.av_valAt, Sx.av_fxAt, Sx.av_bsAt, Sx.av_ownAt, Sx.av_fxOwn, Sx.av_at, Sx.av_fx, and_true] at hd
              have h6 := conv (c := ca) HM.out (hA14.below hb)
              go_simp
              exact givx_pure rfl rfl
            iterate 4 (refine askX_cons (fun vs w1 s hlo hhi hb hst hd => ?_) ?_; (focus (clear hlo hhi hst; simp only [DepX, Region.binds, SxI, List.getD_cons_zero, List.getD_cons_succ, Sx.av_val, Sx.av_valAt, Sx.av_fxAt, Sx.av_bsAt, Sx.av_ownAt, Sx.av_fxOwn, Sx.av_at, Sx.av_fx, and_true] at hd; go_simp; exact givx_pure rfl rfl)))
            refine askX_cons (fun vs w1 s hlo hhi hb hst hd => ?_) ?_
            · obtain rfl : s = 2 := Nat.le_antisymm hhi hlo
              clear hlo hhi
              have hst : ∃ q, Dk w1 wc.heap.size g q ⟨a, m, false, false, 0⟩ := hst
              obtain ⟨q0, dk⟩ := hst
              have hqq := dk.qge
              simp only [DepX, Region.binds, SxI, List.getD_cons_zero, List.getD_cons_succ, Sx.av_val, Sx.av_valAt, Sx.av_fxAt, Sx.av_bsAt, Sx.av_ownAt, Sx.av_fxOwn, Sx.av_at, Sx.av_fx, and_true] at hd
              have hle := hb.size
              go_simp
              refine givx_enter ((cut_any _ g q0 _ _ _ dk).mono ?_)
              rintro e w2 ⟨q2, rfl, d2, t2, _⟩
              rw [down7] at d2 ⊢
              exact ⟨_, rfl, givx_fx rfl (t2.belowB hgb (fun k hk => Nat.le_trans hbb (hqq k hk)) (by omega)) ⟨q2, d2⟩ rfl⟩
            iterate 3 (refine askX_cons (fun vs w1 s hlo hhi hb hst hd => ?_) ?_; (focus (clear hlo hhi hst; simp only [DepX, Region.binds, SxI, List.getD_cons_zero, List.getD_cons_succ, Sx.av_val, Sx.av_valAt, Sx.av_fxAt, Sx.av_bsAt, Sx.av_ownAt, Sx.av_fxOwn, Sx.av_at, Sx.av_fx, and_true] at hd; go_simp; exact givx_pure rfl rfl)))
            exact askX_nil
          case hend16 =>
            intro vs w1 hb hst hd
            simp only [AllX, SxI, List.getD_cons_zero, List.getD_cons_succ, Sx.av_val, Sx.av_valAt, Sx.av_fxAt, Sx.av_bsAt, Sx.av_ownAt, Sx.av_fxOwn, Sx.av_at, Sx.av_fx, and_true, Nat.reduceAdd] at hd
            have hlast := hd.2.2.2.2.2.2.2.2.2.2.2.2.2.2.2.2.2.2.2.2.2.2.2.2.2.2.2.2.2.2.2.2.2
            clear hd
            clear hst
            go_wp2
            go_ret
            exact ⟨by simp [hlast], b14.trans hb⟩
end Go.Proofs.Ytcgkoojegopfnaa
