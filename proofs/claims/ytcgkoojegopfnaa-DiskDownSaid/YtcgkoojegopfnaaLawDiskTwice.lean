/- The walk of the law DiskTwice. -/
import Derived.Test.YtcgkoojegopfnaaDiskS
import Derived.Lib.MinMax
import Derived.Deep.DeepCutAuto
namespace Go.Proofs.Ytcgkoojegopfnaa
open Go.RowKit

theorem twice1 (a : List UInt8) (h : a.length ≤ 3000) : dAppend dNew a = (⟨a, 0, false, false, 0⟩, 0) := by
  unfold dAppend dNew
  simp only [List.length_nil, List.nil_append]
  rw [if_neg (by decide), if_neg (by omega)]
theorem twice2 (a : List UInt8) (k : Int) : dCrash ⟨a, 0, false, false, 0⟩ k = ⟨a.take (min k.toNat a.length), min k.toNat a.length, true, false, 0⟩ := by
  unfold dCrash dStay
  simp
theorem twice3 (p : List UInt8) (s : Nat) (h : p.length = s) (k : Int) : dCrash ⟨p, s, true, false, 0⟩ k = ⟨p, s, true, false, 0⟩ := by
  subst h
  unfold dCrash dStay
  simp
theorem twice4 (p : List UInt8) (s : Nat) : dUp ⟨p, s, true, false, 0⟩ = (⟨p, s, false, false, 0⟩, 0) := rfl
theorem twice5 (p x : List UInt8) (s : Nat) (h : p.length + x.length ≤ 65536) : dAppend ⟨p, s, false, false, 0⟩ x = (⟨p ++ x, s, false, false, 0⟩, 0) := by
  unfold dAppend
  simp only
  rw [if_neg (by decide), if_neg (by omega)]
theorem twice6 (p : List UInt8) (s : Nat) : dSync ⟨p, s, false, false, 0⟩ = (⟨p, p.length, false, false, 0⟩, 0) := rfl
theorem twice7 (p a : List UInt8) (k : Int) : dCrash ⟨p ++ a, p.length, false, false, 0⟩ k = ⟨p ++ a.take (min k.toNat a.length), p.length + min k.toNat a.length, true, false, 0⟩ := by
  unfold dCrash dStay
  have e : (p ++ a).length - p.length = a.length := by rw [List.length_append]; omega
  simp only [e]
  rw [List.take_append, List.take_of_length_le (by omega)]
  congr 3
  omega
theorem strOf_size (a : List UInt8) : (strOf a).size = a.length := rfl
theorem strOf_app (a b : List UInt8) : strOf a ++ strOf b = strOf (a ++ b) := by
  unfold strOf
  show ByteArray.append _ _ = _
  ext1
  simp [ByteArray.append]

set_option maxRecDepth 100000 in
set_option maxHeartbeats 3200000 in
theorem diskTwice_walk (w : World) (A : Option Addr) (la : List UInt8) (na ca : Nat) (hna : la.length = na) (hca : na ≤ ca) (hma : ca ≤ maxLen) (hA : Bs w w.heap.size A la)
    (B : Option Addr) (lb : List UInt8) (nb cb : Nat) (hnb : lb.length = nb) (hcb : nb ≤ cb) (hmb : cb ≤ maxLen) (hB : Bs w w.heap.size B lb) (k0 k1 k2 : Int) :
    Calls Try.prog 3 #[.slice A na ca, .slice B nb cb, .agg #[.int .i64 k0, .int .i64 k1, .int .i64 k2]] w fun e w' => e = .returned (.bool true) ∧ Below w.heap.size w w' := by
  unfold maxLen at hma hmb
  obtain ⟨m, hmm⟩ : ∃ m, m = min na 3000 := ⟨_, rfl⟩
  have hlm : (la.take 3000).length = m := by rw [List.length_take]; omega
  obtain ⟨mb, hmmb⟩ : ∃ mb, mb = min nb 3000 := ⟨_, rfl⟩
  have hlmb : (lb.take 3000).length = mb := by rw [List.length_take]; omega
  have HM0 := Lib.hid hmm
  have HMB0 := Lib.hid hmmb
  have hm3 : m ≤ 3000 := by omega
  have hmb3 : mb ≤ 3000 := by omega
  have hmca : m ≤ ca := by omega
  have hmcb : mb ≤ cb := by omega
  have hTA := hA.take 3000
  have hTB := hB.take 3000
  clear hna hnb hmm hmmb hA hB
  generalize la.take 3000 = a at *
  generalize lb.take 3000 = b at *
  have HM := Lib.hid hlm
  have HMB := Lib.hid hlmb
  clear hlm hlmb
  obtain ⟨wb, hwb⟩ : ∃ wb, wb = w.alloc (.cells #[.int .i64 k0, .int .i64 k1, .int .i64 k2] 23) := ⟨_, rfl⟩
  have hsz : wb.heap.size = w.heap.size + 1 := by rw [hwb, World.size_alloc]
  have hb0 : Below w.heap.size w wb := by rw [hwb]; exact (Below.refl _ _).alloc (Nat.le_refl _) _
  have hK : Blk wb w.heap.size 23 #[.int .i64 k0, .int .i64 k1, .int .i64 k2] := by rw [hwb]; exact Blk.new w _ _
  have HSZ := Lib.hid hsz
  have hTA0 := (hTA.below hb0).more hb0.size
  have hTB0 := (hTB.below hb0).more hb0.size
  clear hsz hTA hTB
  go_enter Try.func3, Try.ntmps3
  go_wp2_with fail
  rw [← hwb]
  clear hwb
  refine (shown14_any _).mono ?_
  rintro e w1 ⟨rfl, b1⟩
  go_upto_if 15 with (fail)
  go_cut [0] (fun s wx => s = .slice A m ca ∧ wx = w1)
  case first =>
    by_cases h30 : 3000 < na
    · obtain rfl : m = 3000 := by have := HM0.out; omega
      have h30c : 3000 ≤ ca := by omega
      go_wp2_with fail
      go_meet
      exact ⟨rfl, rfl⟩
    · obtain rfl : m = na := by have := HM0.out; omega
      go_wp2_with fail
      go_meet
      exact ⟨rfl, rfl⟩
  case rest =>
    obtain ⟨rfl, rfl⟩ := hcut
    clear hca HM0
    go_upto_if 20 with (fail)
    go_cut [1] (fun s wx => s = .slice B mb cb ∧ wx = wc)
    case first =>
      by_cases h30 : 3000 < nb
      · obtain rfl : mb = 3000 := by have := HMB0.out; omega
        have h30c : 3000 ≤ cb := by omega
        go_wp2_with fail
        go_meet
        exact ⟨rfl, rfl⟩
      · obtain rfl : mb = nb := by have := HMB0.out; omega
        go_wp2_with fail
        go_meet
        exact ⟨rfl, rfl⟩
    case rest =>
      obtain ⟨rfl, hwc⟩ := hcut
      subst hwc
      clear hcb HMB0
      go_wp2_with fail
      refine (new_any _).mono ?_
      rintro e w2 ⟨g, rfl, d0, f2⟩
      have b2 := chain b1 f2
      have hgb : wb.heap.size ≤ g := Nat.le_trans b1.size d0.ge
      have hbb := b1.size
      have hA2 := (hTA0.below b2).more b2.size
      have hsz2 := f2.size
      go_wp2_with fail
      refine (append_any _ g none dNew A a m ca _ d0 hsz2 HM.out hA2).mono ?_
      rintro e w3 ⟨q3, rfl, d3, t3, _⟩
      have b3 := Touch.below b2 t3 hgb (by simp)
      rw [twice1 a (by rw [HM.out]; exact hm3)] at d3 ⊢
      have hsz3 := Nat.le_trans hsz2 t3.size
      clear hA2 d0 t3 f2 b2 hsz2
      have kc := (hK.below b3 (by rw [HSZ.out]; omega)).cell 0
      simp only [List.getElem?_toArray, List.getElem?_cons_zero] at kc
      go_wp2_with fail
      refine (crash_any _ g q3 _ k0 _ d3).mono ?_
      rintro e w4 ⟨q4, rfl, d4, t4, _⟩
      have b4 := Touch.below b3 t4 hgb (fun k hk => Nat.le_trans hbb (d3.qge k hk))
      rw [twice2, HM.out] at d4
      have hsz4 := Nat.le_trans hsz3 t4.size
      have hs0 : min (max k0 0) (m : Int) = ((min k0.toNat m : Nat) : Int) := by omega
      have hsm : min k0.toNat m ≤ m := Nat.min_le_right _ _
      generalize min k0.toNat m = s at *
      have hpl : (a.take s).length = s := by rw [List.length_take, HM.out]; omega
      have HPL := Lib.hid hpl
      clear d3 b3 kc hsz3 hpl
      obtain ⟨p, hp⟩ : ∃ p, a.take s = p := ⟨_, rfl⟩
      have HP := Lib.hid hp
      rw [hp] at d4 HPL
      clear hp
      go_wp2_with fail
      refine (bytes_any _ g q4 _ _ d4).mono ?_
      rintro e w5 ⟨P5, n5, c5, rfl, o5, f5⟩
      have d5 := d4.step f5
      have b5 := chain b4 f5
      have hsz5 := Nat.le_trans hsz4 f5.size
      have h5 := conv (c := c5) o5.1 o5.bs
      have kc := (hK.below b5 (by rw [HSZ.out]; omega)).cell 1
      simp only [List.getElem?_toArray, List.getElem?_cons_zero, List.getElem?_cons_succ] at kc
      clear d4 b4 hsz4 f5 o5
      go_wp2_with fail
      refine (crash_any _ g q4 _ k1 _ d5).mono ?_
      rintro e w6 ⟨q6, rfl, d6, t6, _⟩
      have b6 := Touch.below b5 t6 hgb (fun k hk => Nat.le_trans hbb (d5.qge k hk))
      rw [twice3 p s HPL.out] at d6
      have hsz6 := Nat.le_trans hsz5 t6.size
      clear d5 t6 b5 kc hsz5 h5
      go_wp2_with fail
      refine (bytes_any _ g q6 _ _ d6).mono ?_
      rintro e w7 ⟨P7, n7, c7, rfl, o7, f7⟩
      have d7 := d6.step f7
      have b7 := chain b6 f7
      have hsz7 := Nat.le_trans hsz6 f7.size
      have h7 := conv (c := c7) o7.1 o7.bs
      have kc := (hK.below b7 (by rw [HSZ.out]; omega)).cell 0
      simp only [List.getElem?_toArray, List.getElem?_cons_zero] at kc
      have hA7 := ((hTA0.below b7).more b7.size).take s
      have HAP := Lib.hid (show (a.take s).length = s by rw [HP.out]; exact HPL.out)
      have h8 := conv (c := ca) HAP.out hA7
      rw [HP.out] at h8
      have hsca : s ≤ ca := by omega
      clear d6 b6 hsz6 f7 o7 hA7
      go_wp2_with fail
      refine (up_any _ g q6 _ _ d7).mono ?_
      rintro e w8 ⟨q8, rfl, d8, t8, _⟩
      have b8 := Touch.below b7 t8 hgb (fun k hk => Nat.le_trans hbb (d7.qge k hk))
      rw [twice4] at d8 ⊢
      have hsz8 := Nat.le_trans hsz7 t8.size
      clear d7 t8 b7 hsz7 h7 h8 kc hs0
      have hB8 := (hTB0.below b8).more b8.size
      go_wp2_with fail
      refine (append_any _ g q8 _ B b mb cb _ d8 hsz8 HMB.out hB8).mono ?_
      rintro e w9 ⟨q9, rfl, d9, t9, _⟩
      have b9 := Touch.below b8 t9 hgb (fun k hk => Nat.le_trans hbb (d8.qge k hk))
      rw [twice5 p b s (by rw [HPL.out, HMB.out]; omega)] at d9 ⊢
      have hsz9 := Nat.le_trans hsz8 t9.size
      clear d8 t9 b8 hsz8 hB8
      go_wp2_with fail
      refine (sync_any _ g q9 _ _ d9).mono ?_
      rintro e w10 ⟨q10, rfl, d10, t10, _⟩
      have b10 := Touch.below b9 t10 hgb (fun k hk => Nat.le_trans hbb (d9.qge k hk))
      rw [twice6] at d10 ⊢
      have hsz10 := Nat.le_trans hsz9 t10.size
      clear d9 t10 b9 hsz9
      go_wp2_with fail
      refine (bytes_any _ g q10 _ _ d10).mono ?_
      rintro e w11 ⟨P11, n11, c11, rfl, o11, f11⟩
      have d11 := d10.step f11
      have b11 := chain b10 f11
      have hsz11 := Nat.le_trans hsz10 f11.size
      have h11 := conv (c := c11) o11.1 o11.bs
      have hA11 := (hTA0.below b11).more b11.size
      clear d10 b10 hsz10 f11 o11
      go_wp2_with fail
      refine (append_any _ g q10 _ A a m ca _ d11 hsz11 HM.out hA11).mono ?_
      rintro e w12 ⟨q12, rfl, d12, t12, _⟩
      have b12 := Touch.below b11 t12 hgb (fun k hk => Nat.le_trans hbb (d11.qge k hk))
      rw [twice5 (p ++ b) a _ (by rw [List.length_append, HPL.out, HMB.out, HM.out]; omega)] at d12
      clear d11 t12 b11 h11 hA11 hsz11
      have kc := (hK.below b12 (by rw [HSZ.out]; omega)).cell 2
      simp only [List.getElem?_toArray, List.getElem?_cons_zero, List.getElem?_cons_succ] at kc
      go_wp2_with fail
      refine (crash_any _ g q12 _ k2 _ d12).mono ?_
      rintro e w13 ⟨q13, rfl, d13, t13, _⟩
      have b13 := Touch.below b12 t13 hgb (fun k hk => Nat.le_trans hbb (d12.qge k hk))
      rw [twice7, HM.out, List.append_assoc] at d13
      clear d12 t13 b12 kc
      have kc := (hK.below b13 (by rw [HSZ.out]; omega)).cell 2
      simp only [List.getElem?_toArray, List.getElem?_cons_zero, List.getElem?_cons_succ] at kc
      have ht0 : min (max k2 0) (m : Int) = ((min k2.toNat m : Nat) : Int) := by omega
      have htm : min k2.toNat m ≤ m := Nat.min_le_right _ _
      generalize min k2.toNat m = t at *
      have HTL := Lib.hid (show (a.take t).length = t by rw [List.length_take, HM.out]; omega)
      have htca : t ≤ ca := by omega
      have hA9 := (hTA0.below b13).more b13.size
      have hB9 := (hTB0.below b13).more b13.size
      have b9 := b13
      have d9 := d13
      have t1 : (0 : Int) ≤ (t : Int) := by omega
      have t2 : (t : Int) ≤ (ca : Int) := by omega
      have t3 : ((t : Int)).toNat = t := by omega
      clear b13 d13
      go_wp2_with fail
      clear kc ht0
      refine wp_region_inv (by kernel_rfl) [.val (.string (strOf (p ++ b))), .val (.string (strOf p)), .val (.slice B mb cb), .val (.string (strOf b)), .val (.string (strOf (p ++ b))), .val (.bool true), .val (.bool true), .val (.pointer (some ⟨g, 0, none⟩)), .bs (p ++ (b ++ a.take t)), .val (.string (strOf (p ++ (b ++ a.take t)))), .val (.string (strOf (p ++ b))), .val (.slice A m ca), .val (.int .i64 (t : Nat)), .val (.slice A t ca), .val (.string (strOf (a.take t))), .val (.string (strOf (p ++ (b ++ a.take t)))), .val (.bool true), .val (.bool true), .val (.bool true)] (T := ?T) (by kernel_rfl) (by kernel_rfl) ?hT ?hask ?hend
      case hT =>
        intro vs
        simp only [fill, Act.put, List.setIfInBounds_toArray, List.set_cons_succ, List.set_cons_zero, Nat.reduceAdd]
        exact rfl
      case hask =>
        iterate 3 (refine askI_cons (fun vs w1 hb hd => ?_) ?_; (focus (clear hd; go_simp; exact gives_pure rfl)))
        refine askI_cons (fun vs w1 hb hd => ?_) ?_
        · have h6 := conv (c := cb) HMB.out (hB9.below hb)
          simp only [DepI, Region.binds, SlI, List.getD_cons_zero, List.getD_cons_succ, Sl.val, Sl.bs, and_true] at hd
          go_simp
          exact gives_pure rfl
        refine askI_cons (fun vs w1 hb hd => ?_) ?_
        · simp only [DepI, Region.binds, SlI, List.getD_cons_zero, List.getD_cons_succ, Sl.val, Sl.bs, and_true] at hd
          have hsa := strOf_app p b
          go_simp
          rw [if_neg (by rw [strOf_size, strOf_size, HPL.out, HMB.out]; omega)]
          exact gives_pure rfl
        iterate 3 (refine askI_cons (fun vs w1 hb hd => ?_) ?_; (focus (simp only [DepI, Region.binds, SlI, List.getD_cons_zero, List.getD_cons_succ, Sl.val, Sl.bs, and_true] at hd; go_simp; exact gives_pure rfl)))
        refine askI_cons (fun vs w1 hb hd => ?_) ?_
        · simp only [DepI, Region.binds, SlI, List.getD_cons_zero, List.getD_cons_succ, Sl.val, Sl.bs, and_true] at hd
          go_simp
          refine gives_enter ((bytes_any _ g q13 _ _ (d9.step hb)).mono ?_)
          rintro e w2 ⟨P, n2, c2, rfl, o2, f2⟩
          exact ⟨_, rfl, f2, P, _, c2, rfl, o2.1, o2.cap.1, o2.cap.2, o2.bs⟩
        refine askI_cons (fun vs w1 hb hd => ?_) ?_
        · obtain ⟨A1, n1, c1, h1, h2, h3, h4, h5⟩ := hd.1
          have h6 := conv (c := c1) h2 h5
          clear h2 h3 h4 h5
          simp only [DepI, Region.binds, SlI, List.getD_cons_zero, List.getD_cons_succ, Sl.val, Sl.bs, and_true] at hd
          go_simp
          exact gives_pure rfl
        iterate 4 (refine askI_cons (fun vs w1 hb hd => ?_) ?_; (focus (simp only [DepI, Region.binds, SlI, List.getD_cons_zero, List.getD_cons_succ, Sl.val, Sl.bs, and_true] at hd; go_simp; exact gives_pure rfl)))
        refine askI_cons (fun vs w1 hb hd => ?_) ?_
        · have h6 := conv (c := ca) HTL.out ((hA9.take t).below hb)
          simp only [DepI, Region.binds, SlI, List.getD_cons_zero, List.getD_cons_succ, Sl.val, Sl.bs, and_true] at hd
          go_simp
          exact gives_pure rfl
        refine askI_cons (fun vs w1 hb hd => ?_) ?_
        · simp only [DepI, Region.binds, SlI, List.getD_cons_zero, List.getD_cons_succ, Sl.val, Sl.bs, and_true] at hd
          have hsa := strOf_app (p ++ b) (a.take t)
          go_simp
          rw [if_neg (by rw [strOf_size, strOf_size, List.length_append, HPL.out, HMB.out, HTL.out]; omega)]
          exact gives_pure rfl
        iterate 3 (refine askI_cons (fun vs w1 hb hd => ?_) ?_; (focus (simp only [DepI, Region.binds, SlI, List.getD_cons_zero, List.getD_cons_succ, Sl.val, Sl.bs, and_true] at hd; go_simp; exact gives_pure rfl)))
        exact askI_nil
      case hend =>
        intro vs w1 hb hd
        simp only [AllI, SlI, List.getD_cons_zero, List.getD_cons_succ, Sl.val, Sl.bs, and_true, Nat.reduceAdd] at hd
        have hlast := hd.2.2.2.2.2.2.2.2.2.2.2.2.2.2.2.2.2.2
        clear hd
        have b10 := b9.trans (hb.mono b9.size)
        go_wp2
        go_ret
        exact ⟨by simp [hlast], hb0.trans (b10.mono hb0.size)⟩
end Go.Proofs.Ytcgkoojegopfnaa
