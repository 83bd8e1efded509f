/- The walk of the law StoreSplit. -/
import Derived.Test.YtcgkoojegopfnaaSplitA
namespace Go.Proofs.Ytcgkoojegopfnaa
open Go.RowKit
set_option linter.unusedSimpArgs false
set_option linter.unusedVariables false

set_option maxRecDepth 100000 in
set_option maxHeartbeats 3200000 in
theorem storeSplit_walk (w : World) (A : Option Addr) (l : List Rcd) (n c : Nat) (hn : l.length = n) (hnc : n ≤ c) (hcm : c ≤ maxLen) (hl : Rc w (fun b => b < w.heap.size) A l) :
    Calls Try.prog 9 #[.slice A n c] w fun e w' => e = .returned (.bool true) ∧ Below w.heap.size w w' := by
  go_enter Try.func9, Try.ntmps9
  go_wp2_with fail
  refine (shown15_any _).mono ?_
  rintro e w1 ⟨rfl, b1⟩
  have hl1 := hl.step b1
  go_wp2_with fail
  refine (records_any (fun b => b < w.heap.size) l A n c w1 (fun b h => Nat.lt_of_lt_of_le h b1.size) hn hnc hcm hl1).mono ?_
  rintro e w2 ⟨A2, n2, c2, rfl, o2, b2⟩
  have bw2 := b1.trans (b2.mono b1.size)
  have hL30 : (recsOf l).length ≤ 30 := by unfold recsOf; rw [List.length_map, List.length_take]; omega
  have hLx : ∀ r ∈ recsOf l, r.x.length ≤ 1000000 := by
    intro r hr
    unfold recsOf at hr
    rw [List.mem_map] at hr
    obtain ⟨y, _, rfl⟩ := hr
    show (y.x.take 250).length ≤ 1000000
    rw [List.length_take]; omega
  have r2 := o2.rc (F' := fun b => b < w2.heap.size) (fun b _ h => h) (fun b _ h => h)
  have hn2 := o2.1
  have hc2 := o2.cap
  clear hl hl1 b1 b2 o2
  generalize recsOf l = L at *
  go_wp2_with fail
  refine (new_any _).mono ?_
  rintro e w3 ⟨g1, rfl, d3, b3⟩
  go_wp2_with fail
  refine (new_any _).mono ?_
  rintro e w4 ⟨g2, rfl, d4, b4⟩
  have hg1 := d3.ge
  have hg1l := d3.g_lt
  have hg2 := d4.ge
  have hg2l := d4.g_lt
  have bw4 := bw2.trans ((b3.trans (b4.mono b3.size)).mono bw2.size)
  have d34 := d3.step b4
  have r4 := (r2.step b3).step b4
  have h23 := b3.size
  have h34 := b4.size
  have HLX := Lib.hid hLx
  have HN2 := Lib.hid hn2
  have hn30 : n2 ≤ 30 := by omega
  clear hLx hL30 d3 r2 b3 b4 hn2
  go_wp2_with fail
  refine (save_any w2.heap.size g1 none dNew (fun b => b < w2.heap.size) st0 none 0 0 L A2 n2 c2 w4 (fun b h => ⟨by omega, by omega, by simp⟩) d34 (by omega) ⟨rfl, Nat.le_refl _, Nat.zero_le _, En.nil⟩ (by omega) HN2.out hn30 hc2.1 r4 HLX.out).mono ?_
  rintro e w5 ⟨A5, n5, c5, q1, rfl, st5, d5, t5, m5⟩
  obtain ⟨s5, e5, D, hsv⟩ : ∃ a b c, sSave dNew st0 L = (a, b, c) := ⟨_, _, _, rfl⟩
  rw [hsv] at st5 d5 ⊢
  simp only at st5 d5 ⊢
  have HSV := Lib.hid hsv
  have bw5 := Touch.below bw4 t5 (by have := bw2.size; omega) (fun k h => by cases h)
  have hg12 : g2 ≠ g1 := by omega
  have d45 := d4.kept t5 hg12 (by simp) (by simp) (fun k hk => by cases hk)
  have r5 : Rc w5 (fun b => b < w2.heap.size) A2 L := r4.keep t5.size fun b hf hlt => t5.block b hlt (by omega) (by simp)
  have h45 := t5.size
  have hq1 : ∀ k, q1 = some k → w4.heap.size ≤ k := fun k hk => by
    rcases m5 with rfl | ⟨k', rfl, hk'⟩
    · cases hk
    · injection hk with hk; omega
  have hq1l := d5.q_lt
  unfold stV
  clear hsv d34 d4 r4 t5 bw4 m5
  have hc5 := st5.2
  have ba := (Below.refl w5.heap.size w5).alloc (Nat.le_refl _) (.cells #[.int .i64 s5.floor, .int .i64 s5.term, .int .i64 s5.vote, .slice A5 n5 c5] TSt)
  have bb := ba.alloc ba.size (.cells #[.int .i64 0, .int .i64 0, .int .i64 0, .slice none 0 0] TSt)
  have k6 := (Blk.new w5 TSt #[.int .i64 s5.floor, .int .i64 s5.term, .int .i64 s5.vote, .slice A5 n5 c5]).alloc (.cells #[.int .i64 0, .int .i64 0, .int .i64 0, .slice none 0 0] TSt)
  have k8 := Blk.new (w5.alloc (.cells #[.int .i64 s5.floor, .int .i64 s5.term, .int .i64 s5.vote, .slice A5 n5 c5] TSt)) TSt #[.int .i64 0, .int .i64 0, .int .i64 0, .slice none 0 0]
  rw [World.size_alloc] at k8
  have st7 := (st5.mono (F' := fun b => b < w5.heap.size ∧ b ≠ g2) fun b h hlt => ⟨hlt, by rcases h.1 with h | h <;> omega⟩).step bb
  have d7 := d5.step bb
  have o7 := d45.step bb
  have r7 := r5.step bb
  have bw7 := bw5.trans (bb.mono bw5.size)
  have hsz7 : ((w5.alloc (.cells #[.int .i64 s5.floor, .int .i64 s5.term, .int .i64 s5.vote, .slice A5 n5 c5] TSt)).alloc (.cells #[.int .i64 0, .int .i64 0, .int .i64 0, .slice none 0 0] TSt)).heap.size = w5.heap.size + 1 + 1 := by simp
  clear ba bb st5 d5 d45 r5 bw5
  go_wp2_with fail
  generalize (w5.alloc (.cells #[.int .i64 s5.floor, .int .i64 s5.term, .int .i64 s5.vote, .slice A5 n5 c5] TSt)).alloc (.cells #[.int .i64 0, .int .i64 0, .int .i64 0, .slice none 0 0] TSt) = w7 at *
  go_loopw [9] (fun i wr => ∃ (k : Nat) (t : Stb) (At : Option Addr) (nt ct : Nat) (q : Option Nat), i = .int .i64 k ∧ k ≤ n2 ∧ steps st0 (L.take k) = (t, 0) ∧ (L.take k).all rOk = true ∧ Blk wr (w5.heap.size + 1) TSt #[.int .i64 t.floor, .int .i64 t.term, .int .i64 t.vote, .slice At nt ct] ∧ StF wr (fun b => b < wr.heap.size ∧ b ≠ g2 ∧ b ≠ w5.heap.size + 1 ∧ some b ≠ q) t At nt ct ∧ nt ≤ 70 ∧ Dk wr w3.heap.size g2 q (dOf (L.take k)) ∧ Moved w7 none q ∧ Touch w7 wr g2 (some (w5.heap.size + 1)) ∧ Below w.heap.size w wr) (fun i _ => n2 - (intOf i).toNat)
  case atStart => exact ⟨0, st0, none, 0, 0, none, rfl, by omega, rfl, rfl, k8, ⟨rfl, Nat.le_refl _, Nat.zero_le _, En.nil⟩, by omega, o7, .inl rfl, Touch.refl _ _ _, bw7⟩
  case round =>
    clear k8 o7 bw7
    obtain ⟨k, t, At, nt, ct, q, rfl, hk, hst, hall, k8, stt, hnt, dk, hmq, hT, hb⟩ := hrel
    have hqge : ∀ j, q = some j → w7.heap.size ≤ j := fun j hj => by
      rcases hmq with rfl | ⟨k', rfl, hk'⟩
      · cases hj
      · injection hj with hj; omega
    have hql := dk.q_lt
    have h7r := hT.size
    have hg2r : g2 < wr.heap.size := dk.g_lt
    have hw2 := bw2.size
    have rcw : Rc wr (fun b => b < w2.heap.size) A2 L := r7.keep hT.size (fun b hf hlt => hT.block b hlt (by omega) (fun e => by injection e with e; omega))
    by_cases hlt : k < n2
    · have hx : L[k]? = some (L[k]'(by rw [HN2.out]; exact hlt)) := List.getElem?_eq_getElem _
      have hxm : L[k]'(by rw [HN2.out]; exact hlt) ∈ L := List.getElem_mem _
      have hg := Lib.hid (show L.take (k + 1) = L.take k ++ [L[k]'(by rw [HN2.out]; exact hlt)] by rw [List.take_succ_eq_append_getElem (by rw [HN2.out]; exact hlt)])
      have hg' := Lib.hid (show L = L.take k ++ L[k]'(by rw [HN2.out]; exact hlt) :: L.drop (k + 1) by rw [List.getElem_cons_drop, List.take_append_drop])
      have hsub := rcw.sub k 1 (by rw [HN2.out]; omega)
      have hs1 : (L.drop k).take 1 = [L[k]'(by rw [HN2.out]; exact hlt)] := by rw [List.drop_eq_getElem_cons (by rw [HN2.out]; exact hlt)]; rfl
      rw [hs1] at hsub
      obtain ⟨b, off, _, _, rfl, _⟩ := rcw.at_ hx
      have hx1 : ∀ r ∈ [L[k]'(by rw [HN2.out]; exact hlt)], r.x.length ≤ 1000000 := fun r hr => by
        rw [List.mem_singleton] at hr
        rw [hr]
        exact HLX.out _ hxm
      clear hx hxm hs1
      generalize L[k]'(by rw [HN2.out]; exact hlt) = x at *
      rw [Option.map_some, Addr.add_lit] at hsub
      obtain ⟨FQ, hFQ⟩ : ∃ FQ : Nat → Prop, FQ = fun b => b < wr.heap.size ∧ b ≠ g2 ∧ b ≠ w5.heap.size + 1 ∧ some b ≠ q := ⟨_, rfl⟩
      have rc1 : Rc wr FQ (some ⟨b, off + k * 4, none⟩) [x] := hsub.mono fun b' h hlt' => by
        rw [hFQ]
        exact ⟨hlt', by omega, by omega, fun e => by have := hqge b' e.symm; omega⟩
      rw [← hFQ] at stt
      have HFQ := Lib.hid (show ∀ b, FQ b → b < wr.heap.size ∧ b ≠ g2 ∧ b ≠ w5.heap.size + 1 ∧ some b ≠ q by rw [hFQ]; exact fun _ h => h)
      have HX1 := Lib.hid hx1
      obtain ⟨p1, e1, dn, hsv1⟩ : ∃ p1 e1 dn, sSave (dOf (L.take k)) t [x] = (p1, e1, dn) := ⟨_, _, _, rfl⟩
      have HSV1 := Lib.hid hsv1
      clear hFQ hsub hx1 hsv1
      have hst' := hst
      have hqB : ∀ j, q = some j → w.heap.size ≤ j := fun j hj => by have := hqge j hj; omega
      have hw1 : IntKind.i64.wrap ((k : Int) + 1) = (k : Int) + 1 := IntWalk.i64_in _ (by omega)
      have hw2 : ((k : Int) + 1).toNat = k + 1 := by omega
      have hw3 : (0 : Int) ≤ (k : Int) + 1 := by omega
      have hw4 : (k : Int) + 1 ≤ (c2 : Int) := by have := hc2.1; omega
      have hw5 : (k : Int) ≤ (k : Int) + 1 := by omega
      have hw6 : k + 1 - k = 1 := by omega
      have hw7 : ¬ c2 = k := by have := hc2.1; omega
      have hkc : k ≤ c2 := by have := hc2.1; omega
      have hbw := hb
      go_upto_region 12 with (fail)
      refine wp_region_invG (R := (fun s _ y a b => Below w.heap.size a b ∧ (s = 0 → y = (a.heap.size, b.heap.size) ∧ Touch a b g2 q))) (B := w.heap.size) (by kernel_rfl) ?hB1 ?hRB1 [.val (.pointer (some ⟨g2, 0, none⟩)), .valAt 0 0 (.agg #[.int .i64 t.floor, .int .i64 t.term, .int .i64 t.vote, .slice At nt ct]), .val (.slice (some ⟨b, off, none⟩) n2 c2), .val (.int .i64 (k : Nat)), .val (.int .i64 (k : Nat)), .val (.int .i64 ((k : Int) + 1)), .val (.slice (some ⟨b, off + k * 4, none⟩) 1 (c2 - k)), .fxG 0 (SaveV wr w3.heap.size g2 q FQ p1 e1 dn) (SaveV.step), .same 1 7 (fun v => ∃ x, v = .tuple #[x, .int .i64 e1]), .fst 1 7, .val (.int .i64 e1), .till 0 1 (IsZ wr) (IsZ.step) (fun s y y' v a a' _ hs hr h => h.over (hr.2 (by omega)).1 (hr.2 (by omega)).2 hg2r (fun j hj => (hql j hj).2.1)), .fxOn 1 11 (fun u _ w => SaveK wr w3.heap.size g2 q FQ p1 dn u w) (fun u v w w' hb h => h.step u v w w' hb), .val (.int .i64 e1)] [7, 12] (fun s y wx => (s = 0 → Below wr.heap.size wr wx) ∧ wr.heap.size ≤ wx.heap.size ∧ y.2 ≤ wx.heap.size) (T := ?T1) (by kernel_rfl) ?hSt1 (0, 0) ?h01 ?hT1 ?hask1 ?hend1
      case hB1 =>
        omega
      case hRB1 =>
        exact fun _ _ _ _ _ h => h.1
      case hSt1 =>
        exact fun _ _ _ _ hb h => ⟨fun hs => chain (h.1 hs) hb, Nat.le_trans h.2.1 hb.size, Nat.le_trans h.2.2 hb.size⟩
      case h01 =>
        exact ⟨fun _ => Below.refl _ _, Nat.le_refl _, Nat.zero_le _⟩
      case hT1 =>
        intro vs
        simp only [fill, Act.put, List.setIfInBounds_toArray, List.set_cons_succ, List.set_cons_zero, Nat.reduceAdd]
        exact rfl
      case hask1 =>
        refine askG_cons (fun vs w1 s y hlo hhi hb hst hd hin => ?_) ?_; (focus (clear hlo hhi hst hin; simp only [DepG, Region.binds, GxI, List.getD_cons_zero, List.getD_cons_succ, Gx.av_val, Gx.av_valAt, Gx.av_fxAt, Gx.av_bsAt, Gx.av_ownAt, Gx.av_fxOwn, Gx.av_at, Gx.av_fx, Gx.av_on, Gx.av_fxOn, Gx.av_till, Gx.av_fxG, Gx.av_same, Gx.av_fst, and_true] at hd; go_simp; exact givg_pure rfl rfl))
        refine askG_cons (fun vs w1 s y hlo hhi hb hst hd hin => ?_) ?_
        · obtain rfl : s = 0 := Nat.le_antisymm hhi hlo
          clear hlo hhi
          have hst0 : Below wr.heap.size wr w1 := hst.1 rfl
          simp only [DepG, Region.binds, GxI, List.getD_cons_zero, List.getD_cons_succ, Gx.av_val, Gx.av_valAt, Gx.av_fxAt, Gx.av_bsAt, Gx.av_ownAt, Gx.av_fxOwn, Gx.av_at, Gx.av_fx, Gx.av_on, Gx.av_fxOn, Gx.av_till, Gx.av_fxG, Gx.av_same, Gx.av_fst, Gx.av_till, Gx.av_fxG, Gx.av_same, Gx.av_fst, and_true] at hd
          have hk1 := k8.below hst0 k8.lt
          have y0 := hk1.cell 0
          have y1 := hk1.cell 1
          have y2 := hk1.cell 2
          have y3 := hk1.cell 3
          simp only [List.getElem?_toArray, List.getElem?_cons_zero, List.getElem?_cons_succ] at y0 y1 y2 y3
          have hl9 := hk1.lt
          go_simp
          exact givg_pure rfl rfl
        iterate 4 (refine askG_cons (fun vs w1 s y hlo hhi hb hst hd hin => ?_) ?_; (focus (clear hlo hhi hst hin; simp only [DepG, Region.binds, GxI, List.getD_cons_zero, List.getD_cons_succ, Gx.av_val, Gx.av_valAt, Gx.av_fxAt, Gx.av_bsAt, Gx.av_ownAt, Gx.av_fxOwn, Gx.av_at, Gx.av_fx, Gx.av_on, Gx.av_fxOn, Gx.av_till, Gx.av_fxG, Gx.av_same, Gx.av_fst, and_true] at hd; go_simp; exact givg_pure rfl rfl)))
        refine askG_cons (fun vs w1 s y hlo hhi hb hst hd hin => ?_) ?_
        · clear hlo hhi hst hin
          simp only [DepG, Region.binds, GxI, List.getD_cons_zero, List.getD_cons_succ, Gx.av_val, Gx.av_valAt, Gx.av_fxAt, Gx.av_bsAt, Gx.av_ownAt, Gx.av_fxOwn, Gx.av_at, Gx.av_fx, Gx.av_on, Gx.av_fxOn, Gx.av_till, Gx.av_fxG, Gx.av_same, Gx.av_fst, Gx.av_till, Gx.av_fxG, Gx.av_same, Gx.av_fst, and_true] at hd
          go_simp
          exact givg_pure rfl rfl
        refine askG_cons (fun vs w1 s y hlo hhi hb hst hd hin => ?_) ?_
        · obtain rfl : s = 0 := Nat.le_antisymm hhi hlo
          clear hlo hhi
          have hst0 : Below wr.heap.size wr w1 := hst.1 rfl
          simp only [DepG, Region.binds, GxI, List.getD_cons_zero, List.getD_cons_succ, Gx.av_val, Gx.av_valAt, Gx.av_fxAt, Gx.av_bsAt, Gx.av_ownAt, Gx.av_fxOwn, Gx.av_at, Gx.av_fx, Gx.av_on, Gx.av_fxOn, Gx.av_till, Gx.av_fxG, Gx.av_same, Gx.av_fst, Gx.av_till, Gx.av_fxG, Gx.av_same, Gx.av_fst, and_true] at hd
          go_simp
          refine givg_enter ((save_any w3.heap.size g2 q (dOf (L.take k)) FQ t At nt ct [x] (some ⟨b, off + k * 4, none⟩) 1 (c2 - k) w1 (fun b' h => ⟨Nat.lt_of_lt_of_le (HFQ.out b' h).1 hst0.size, (HFQ.out b' h).2.1, (HFQ.out b' h).2.2.2⟩) (dk.step hst0) (by have := hst0.size; omega) (stt.step hst0) (by omega) rfl (by omega) (by omega) (rc1.step hst0) HX1.out).mono ?_)
          rw [HSV1.out]
          intro e w2' h
          obtain ⟨A9, n9, c9, q9, he, h3⟩ := id h
          subst he
          have ht9 := h3.2.2.1
          exact ⟨_, rfl, givg_fx (w1.heap.size, w2'.heap.size) rfl ⟨ht9.belowB (by omega) hqB (by have := hst0.size; omega), fun _ => ⟨rfl, ht9⟩⟩ ⟨(fun h => by cases h), Nat.le_trans hst0.size ht9.size, Nat.le_refl _⟩ (SaveV.of hst0 h)⟩
        refine askG_cons (fun vs w1 s y hlo hhi hb hst hd hin => ?_) ?_
        · obtain rfl : s = 1 := Nat.le_antisymm hhi hlo
          clear hlo hhi
          simp only [DepG, Region.binds, GxI, List.getD_cons_zero, List.getD_cons_succ, Gx.av_val, Gx.av_valAt, Gx.av_fxAt, Gx.av_bsAt, Gx.av_ownAt, Gx.av_fxOwn, Gx.av_at, Gx.av_fx, Gx.av_on, Gx.av_fxOn, Gx.av_till, Gx.av_fxG, Gx.av_same, Gx.av_fst, Gx.av_till, Gx.av_fxG, Gx.av_same, Gx.av_fst, and_true] at hd
          obtain ⟨A9, n9, c9, q9, hv, _⟩ := hd (Nat.le_refl _)
          go_simp
          exact givg_pure rfl ⟨hv.symm, _, rfl⟩
        refine askG_cons (fun vs w1 s y hlo hhi hb hst hd hin => ?_) ?_
        · clear hlo hhi
          simp only [DepG, Region.binds, GxI, List.getD_cons_zero, List.getD_cons_succ, Gx.av_val, Gx.av_valAt, Gx.av_fxAt, Gx.av_bsAt, Gx.av_ownAt, Gx.av_fxOwn, Gx.av_at, Gx.av_fx, Gx.av_on, Gx.av_fxOn, Gx.av_till, Gx.av_fxG, Gx.av_same, Gx.av_fst, Gx.av_till, Gx.av_fxG, Gx.av_same, Gx.av_fst, and_true] at hd
          obtain ⟨h8, x, hx⟩ := hd
          have h7 : vs 7 = .tuple #[x, .int .i64 e1] := h8.symm.trans hx
          go_simp
          exact givg_pure rfl ⟨_, h7⟩
        refine askG_cons (fun vs w1 s y hlo hhi hb hst hd hin => ?_) ?_
        · clear hlo hhi
          simp only [DepG, Region.binds, GxI, List.getD_cons_zero, List.getD_cons_succ, Gx.av_val, Gx.av_valAt, Gx.av_fxAt, Gx.av_bsAt, Gx.av_ownAt, Gx.av_fxOwn, Gx.av_at, Gx.av_fx, Gx.av_on, Gx.av_fxOn, Gx.av_till, Gx.av_fxG, Gx.av_same, Gx.av_fst, Gx.av_till, Gx.av_fxG, Gx.av_same, Gx.av_fst, and_true] at hd
          obtain ⟨⟨h8, x, hx⟩, _⟩ := hd
          have h7 : vs 7 = .tuple #[x, .int .i64 e1] := h8.symm.trans hx
          go_simp
          exact givg_pure rfl rfl
        refine askG_cons (fun vs w1 s y hlo hhi hb hst hd hin => ?_) ?_
        · clear hlo
          have hs1 := hst.2.1
          have hs2 := hst.2.2
          simp only [DepG, Region.binds, GxI, List.getD_cons_zero, List.getD_cons_succ, Gx.av_val, Gx.av_valAt, Gx.av_fxAt, Gx.av_bsAt, Gx.av_ownAt, Gx.av_fxOwn, Gx.av_at, Gx.av_fx, Gx.av_on, Gx.av_fxOn, Gx.av_till, Gx.av_fxG, Gx.av_same, Gx.av_fst, Gx.av_till, Gx.av_fxG, Gx.av_same, Gx.av_fst, and_true] at hd
          go_simp
          exact givg_value rfl ((Below.refl _ _).alloc (Nat.le_refl _) _) ⟨w1.heap.size, rfl, hs1, .inr hs2, Blk.new _ _ _⟩
        refine askG_cons (fun vs w1 s y hlo hhi hb hst hd hin => ?_) ?_
        · obtain rfl : s = 1 := Nat.le_antisymm hhi hlo
          clear hlo hhi
          simp only [DepG, Region.binds, GxI, List.getD_cons_zero, List.getD_cons_succ, Gx.av_val, Gx.av_valAt, Gx.av_fxAt, Gx.av_bsAt, Gx.av_ownAt, Gx.av_fxOwn, Gx.av_at, Gx.av_fx, Gx.av_on, Gx.av_fxOn, Gx.av_till, Gx.av_fxG, Gx.av_same, Gx.av_fst, Gx.av_till, Gx.av_fxG, Gx.av_same, Gx.av_fst, and_true] at hd
          obtain ⟨k', hv11, hk1, hk2, hk3⟩ := hd.1 (Nat.le_refl 1)
          obtain ⟨u9, hu9⟩ := hd.2.1
          obtain ⟨A9, n9, c9, q9, hv7, sf, dk9, t9, m9⟩ := hd.2.2.1 (by omega)
          clear hd
          have hv9 : vs 9 = .agg #[.int .i64 p1.floor, .int .i64 p1.term, .int .i64 p1.vote, .slice A9 n9 c9] := by
            rw [hv7] at hu9
            injection hu9 with hu9
            have h0 := congrArg (fun a : Array Value => a[0]?) hu9
            simp only [List.getElem?_toArray, List.getElem?_cons_zero] at h0
            injection h0 with h0
            exact h0.symm
          clear hu9 hv7
          have y0 := hk3.cell 0
          have y1 := hk3.cell 1
          have y2 := hk3.cell 2
          have y3 := hk3.cell 3
          have z0 := hk3.free 0
          have z1 := hk3.free 1
          have z2 := hk3.free 2
          have z3 := hk3.free 3
          simp only [List.getElem?_toArray, List.getElem?_cons_zero, List.getElem?_cons_succ] at y0 y1 y2 y3
          go_simp
          have hFk : ¬ ((FQ k' ∨ (wr.heap.size ≤ k' ∧ y.1 ≤ k' ∧ k' < y.2)) ∧ some k' ≠ q9) := fun h => by
            rcases h.1 with h | h
            · have := (HFQ.out k' h).1; omega
            · omega
          have hqk : q9 ≠ some k' := dk9.not_T hk3 (by decide)
          have o8 := (((sf.setN hFk 0 (.int .i64 p1.floor)).setN hFk 1 (.int .i64 p1.term)).setN hFk 2 (.int .i64 p1.vote)).setN hFk 3 (.slice A9 n9 c9)
          have d8 := (((dk9.setNew (g2 := k') (by omega) hqk 0 (.int .i64 p1.floor)).setNew (g2 := k') (by omega) hqk 1 (.int .i64 p1.term)).setNew (g2 := k') (by omega) hqk 2 (.int .i64 p1.vote)).setNew (g2 := k') (by omega) hqk 3 (.slice A9 n9 c9)
          have t8 := (((t9.setNew (g2 := k') (by omega) 0 (.int .i64 p1.floor)).setNew (g2 := k') (by omega) 1 (.int .i64 p1.term)).setNew (g2 := k') (by omega) 2 (.int .i64 p1.vote)).setNew (g2 := k') (by omega) 3 (.slice A9 n9 c9)
          have kk8 := (((hk3.set 0 (.int .i64 p1.floor)).set 1 (.int .i64 p1.term)).set 2 (.int .i64 p1.vote)).set 3 (.slice A9 n9 c9)
          refine givg_skip y rfl ⟨((((Below.refl w.heap.size w1).setCell (by show w.heap.size ≤ k'; omega) _).setCell (by show w.heap.size ≤ k'; omega) _).setCell (by show w.heap.size ≤ k'; omega) _).setCell (by show w.heap.size ≤ k'; omega) _, fun h => by cases h⟩ ⟨(fun h => by cases h), by simpa using hst.2.1, by simpa using hst.2.2⟩ ⟨k', A9, n9, c9, q9, hv11, hk1, kk8, o8.mono (fun b h _ => ⟨h.1.imp id fun h => h.1, h.2⟩), d8, t8, m9⟩
        refine askG_cons (fun vs w1 s y hlo hhi hb hst hd hin => ?_) ?_; (focus (clear hlo hhi hst hin; simp only [DepG, Region.binds, GxI, List.getD_cons_zero, List.getD_cons_succ, Gx.av_val, Gx.av_valAt, Gx.av_fxAt, Gx.av_bsAt, Gx.av_ownAt, Gx.av_fxOwn, Gx.av_at, Gx.av_fx, Gx.av_on, Gx.av_fxOn, Gx.av_till, Gx.av_fxG, Gx.av_same, Gx.av_fst, and_true] at hd; go_simp; exact givg_pure rfl rfl))
        exact askG_nil
      case hend1 =>
        intro vs w1 y hb hst hd
        simp only [AllG, GxI, List.getD_cons_zero, List.getD_cons_succ, Gx.av_val, Gx.av_valAt, Gx.av_fxAt, Gx.av_bsAt, Gx.av_ownAt, Gx.av_fxOwn, Gx.av_at, Gx.av_fx, Gx.av_on, Gx.av_fxOn, Gx.av_till, Gx.av_fxG, Gx.av_same, Gx.av_fst, and_true, Nat.reduceAdd] at hd
        have hlast := hd.2.2.2.2.2.2.2.2.2.2.2.2.2
        have h12 := hd.2.2.2.2.2.2.2.2.2.2.2.2.1
        clear hd
        obtain ⟨k', A9, n9, c9, q9, hv11, hk1, hk3, sf, dk9, t9, m9⟩ := h12 (Nat.le_refl _)
        have h13 : vs 13 = .int .i64 e1 := hlast
        rw [hv11, h13]
        have hz8 : q ≠ some (w5.heap.size + 1) := dk.not_T k8 (by decide)
        have k81 : Blk w1 (w5.heap.size + 1) TSt #[.int .i64 t.floor, .int .i64 t.term, .int .i64 t.vote, .slice At nt ct] := k8.touch t9 (by omega) (fun e => hz8 e.symm)
        have hb1 := hbw.trans hb
        have hT1 : Touch w7 w1 g2 (some (w5.heap.size + 1)) := ⟨t9.os.trans hT.os, t9.tape.trans hT.tape, t9.output.trans hT.output, Nat.le_trans hT.size t9.size, fun b' hlt' hne1 hne2 => (t9.block b' (Nat.lt_of_lt_of_le hlt' hT.size) hne1 (fun e => by have := hqge b' e.symm; omega)).trans (hT.block b' hlt' hne1 hne2)⟩
        have htl : t.log.length ≤ 70 := by rw [stt.1]; exact hnt
        clear h12 hv11 h13 hlast hst k8 stt dk rc1 rcw
        by_cases hgood : rOk x = true ∧ (sStep t x).2 = 0
        · have hso := split_one (L.take k) t x (by rw [List.length_take]; omega) hall hgood.1 hgood.2
          rw [HSV1.out, ← hg.out] at hso
          injection hso with hp hed
          injection hed with he1 hdn
          subst he1 hdn
          have HP := Lib.hid hp
          have hln := sStep_len t x htl
          rw [← hp] at hln
          have hn9 : n9 ≤ 70 := by rw [← sf.1]; exact hln
          have HST := Lib.hid (show steps st0 (L.take (k + 1)) = (p1, 0) by rw [hg.out, steps_snoc _ _ _ (by rw [hst']), hst']; show (if (sStep t x).2 = 0 then _ else _) = _; rw [if_pos hgood.2, hp])
          have HALL := Lib.hid (show (L.take (k + 1)).all rOk = true by rw [hg.out, List.all_append, hall]; simp [hgood.1])
          have y0 := hk3.cell 0
          have y1 := hk3.cell 1
          have y2 := hk3.cell 2
          have y3 := hk3.cell 3
          simp only [List.getElem?_toArray, List.getElem?_cons_zero, List.getElem?_cons_succ] at y0 y1 y2 y3
          have z0 := k81.free 0
          have z1 := k81.free 1
          have z2 := k81.free 2
          have z3 := k81.free 3
          have x0 := k81.cell 0
          have x1 := k81.cell 1
          have x2 := k81.cell 2
          have x3 := k81.cell 3
          simp only [List.getElem?_toArray, List.getElem?_cons_zero, List.getElem?_cons_succ] at x0 x1 x2 x3
          have hlk := hk3.lt
          have hl8 := k81.lt
          clear hgood hall hst' hst hp
          have hz9 : q9 ≠ some (w5.heap.size + 1) := fun e => by
            rcases m9 with rfl | ⟨k9, rfl, hk9⟩
            · exact hz8 e
            · injection e with e
              omega
          go_wp2_with fail
          have kz := (((k81.set 0 (.int .i64 p1.floor)).set 1 (.int .i64 p1.term)).set 2 (.int .i64 p1.vote)).set 3 (.slice A9 n9 c9)
          have hsz : ((((w1.setCell ⟨w5.heap.size + 1, 0, none⟩ (.int .i64 p1.floor)).setCell ⟨w5.heap.size + 1, 1, none⟩ (.int .i64 p1.term)).setCell ⟨w5.heap.size + 1, 2, none⟩ (.int .i64 p1.vote)).setCell ⟨w5.heap.size + 1, 3, none⟩ (.slice A9 n9 c9)).heap.size = w1.heap.size := by simp
          have sf1 : StF w1 (fun b => b < w1.heap.size ∧ b ≠ g2 ∧ b ≠ w5.heap.size + 1 ∧ some b ≠ q9) p1 A9 n9 c9 := sf.mono fun b' h hlt' => ⟨hlt', by
            rcases h.1 with h | h
            · exact (HFQ.out b' h).2.1
            · omega, by
            rcases h.1 with h | h
            · exact (HFQ.out b' h).2.2.1
            · omega, h.2⟩
          have hnf : ¬ (w5.heap.size + 1 < w1.heap.size ∧ w5.heap.size + 1 ≠ g2 ∧ w5.heap.size + 1 ≠ w5.heap.size + 1 ∧ some (w5.heap.size + 1) ≠ q9) := fun h => h.2.2.1 rfl
          have sz := (((sf1.setN hnf 0 (.int .i64 p1.floor)).setN hnf 1 (.int .i64 p1.term)).setN hnf 2 (.int .i64 p1.vote)).setN hnf 3 (.slice A9 n9 c9)
          have hgz : g2 ≠ w5.heap.size + 1 := by omega
          have dz := (((dk9.setNew hgz hz9 0 (.int .i64 p1.floor)).setNew hgz hz9 1 (.int .i64 p1.term)).setNew hgz hz9 2 (.int .i64 p1.vote)).setNew hgz hz9 3 (.slice A9 n9 c9)
          have tz := (((hT1.setQ 0 (.int .i64 p1.floor)).setQ 1 (.int .i64 p1.term)).setQ 2 (.int .i64 p1.vote)).setQ 3 (.slice A9 n9 c9)
          have hwz : w.heap.size ≤ w5.heap.size + 1 := by omega
          have bz := (((hb1.setCell (p := ⟨w5.heap.size + 1, 0, none⟩) hwz (.int .i64 p1.floor)).setCell (p := ⟨w5.heap.size + 1, 1, none⟩) hwz (.int .i64 p1.term)).setCell (p := ⟨w5.heap.size + 1, 2, none⟩) hwz (.int .i64 p1.vote)).setCell (p := ⟨w5.heap.size + 1, 3, none⟩) hwz (.slice A9 n9 c9)
          exact ⟨⟨k + 1, p1, A9, n9, c9, q9, by go_num, by omega, HST.out, HALL.out, kz, by rw [hsz]; exact sz, hn9, dz, hmq.trans m9 hT.size, tz, bz⟩, by simp [intOf]; omega⟩
        · have hsb := split_bad1 (dOf (L.take k)) t x hgood
          rw [HSV1.out] at hsb
          simp only at hsb
          obtain ⟨e6, he6, hall6⟩ := split_bad (L.take k) (L.drop (k + 1)) t x hst' hgood
          rw [← hg'.out, HSV.out] at hall6
          injection hall6 with hs6 hed6
          injection hed6 with he7 hD6
          subst he7 hD6
          have hq19 : ∀ j, q1 = some j → j ≠ g2 ∧ j ≠ w5.heap.size + 1 := fun j hj => ⟨fun e => by have := hq1 j hj; omega, fun e => by have := (hq1l j hj).2.1; omega⟩
          have d71 : Dk w1 w2.heap.size g1 q1 dNew := d7.kept hT1 (fun e => hg12 e.symm) (fun e => by injection e with e; omega) (fun e => (hq19 _ e).1 rfl) (fun j hj e => by injection e with e; exact (hq19 j hj).2 e.symm)
          have hne1 : (e1 != 0) = true := by simpa using hsb
          have hne2 : (e5 != 0) = true := by simpa using he6
          clear hgood hsb hs6 hst hst' he6
          go_wp2_with fail
          refine (bytes_any w2.heap.size g1 q1 dNew w1 d71).mono ?_
          rintro e w6 ⟨A6, n6, c6, rfl, o6, b6⟩
          obtain rfl : n6 = 0 := o6.1.symm
          go_wp2_with fail
          go_ret
          exact ⟨rfl, hb1.trans (b6.mono hb1.size)⟩
    · obtain rfl : k = n2 := by omega
      have hLk : L.take k = L := List.take_of_length_le (by rw [HN2.out]; omega)
      rw [hLk] at hst hall dk
      have hsa := split_all L t (by rw [HN2.out]; omega) hall hst
      rw [HSV.out] at hsa
      injection hsa with hs6 hed6
      injection hed6 with he7 hD6
      subst hs6 he7 hD6
      have HST := Lib.hid hst
      have HALL := Lib.hid hall
      have k6r := k6.touch hT (by omega) (fun e => by injection e with e; omega)
      have s6r := st7.touch hT fun b h _ => ⟨h.2, fun e => by injection e with e; have := h.1; omega⟩
      have hq19 : ∀ j, q1 = some j → j ≠ g2 ∧ j ≠ w5.heap.size + 1 := fun j hj => ⟨fun e => by have := hq1 j hj; omega, fun e => by have := (hq1l j hj).2.1; omega⟩
      have d7r := d7.kept hT (fun e => hg12 e.symm) (fun e => by injection e with e; omega) (fun e => (hq19 _ e).1 rfl) (fun j hj e => by injection e with e; exact (hq19 j hj).2 e.symm)
      have y0 := k6r.cell 0
      have y1 := k6r.cell 1
      have y2 := k6r.cell 2
      have y3 := k6r.cell 3
      have x0 := k8.cell 0
      have x1 := k8.cell 1
      have x2 := k8.cell 2
      have x3 := k8.cell 3
      simp only [List.getElem?_toArray, List.getElem?_cons_zero, List.getElem?_cons_succ] at y0 y1 y2 y3 x0 x1 x2 x3
      have hl6 := k6r.lt
      have hl8 := k8.lt
      have hlen5 := s6r.1
      have hlent := stt.1
      obtain rfl : n5 = nt := by omega
      clear hst hall hlt hLk rcw r7 st7 d7 k6
      go_wp2_with fail
      refine (same_any _ _ s5 s5 A5 At n5 c5 n5 ct _ (by omega) (by omega) s6r stt).mono ?_
      rintro e w10 ⟨rfl, b10⟩
      rw [show decide (s5 = s5) = true from decide_eq_true rfl]
      have b11 := hb.trans (b10.mono hb.size)
      have d1e := d7r.step b10
      have d2e := dk.step b10
      clear y0 y1 y2 y3 x0 x1 x2 x3 s6r stt k6r k8 b10 hT d7r dk
      go_wp2_with fail
      unfold dOf at d1e d2e
      refine wp_region_inv (by kernel_rfl) [.val (.int .i64 0), .val (.bool true), .val (.bool true), .val (.bool true), .val (.bool true), .val (.bool true), .val (.pointer (some ⟨g1, 0, none⟩)), .bs (saveB L), .val (.string (strOf (saveB L))), .val (.pointer (some ⟨g2, 0, none⟩)), .bs (saveB L), .val (.string (strOf (saveB L))), .val (.bool true), .val (.bool true), .val (.bool true)] (T := ?T17) (by kernel_rfl) (by kernel_rfl) ?hT17 ?hask17 ?hend17
      case hT17 =>
        intro vs
        simp only [fill, Act.put, List.setIfInBounds_toArray, List.set_cons_succ, List.set_cons_zero, Nat.reduceAdd]
        exact rfl
      case hask17 =>
        iterate 7 (refine askI_cons (fun vs w1 hb hd => ?_) ?_; (focus (simp only [DepI, Region.binds, SlI, List.getD_cons_zero, List.getD_cons_succ, Sl.val, Sl.bs, and_true] at hd; go_simp; exact gives_pure rfl)))
        refine askI_cons (fun vs w1 hb hd => ?_) ?_
        · simp only [DepI, Region.binds, SlI, List.getD_cons_zero, List.getD_cons_succ, Sl.val, Sl.bs, and_true] at hd
          go_simp
          refine gives_enter ((bytes_any _ g1 q1 _ _ (d1e.step hb)).mono ?_)
          rintro e w2' ⟨P, n2', c2', rfl, o2, f2⟩
          exact ⟨_, rfl, f2, P, _, c2', rfl, o2.1, o2.cap.1, o2.cap.2, o2.bs⟩
        refine askI_cons (fun vs w1 hb hd => ?_) ?_
        · obtain ⟨A1, n1, c1, h1, h2, h3, h4, h5⟩ := hd.1
          have h6 := conv (c := c1) h2 h5
          clear h2 h3 h4 h5
          simp only [DepI, Region.binds, SlI, List.getD_cons_zero, List.getD_cons_succ, Sl.val, Sl.bs, and_true] at hd
          go_simp
          exact gives_pure rfl
        refine askI_cons (fun vs w1 hb hd => ?_) ?_; (focus (simp only [DepI, Region.binds, SlI, List.getD_cons_zero, List.getD_cons_succ, Sl.val, Sl.bs, and_true] at hd; go_simp; exact gives_pure rfl))
        refine askI_cons (fun vs w1 hb hd => ?_) ?_
        · simp only [DepI, Region.binds, SlI, List.getD_cons_zero, List.getD_cons_succ, Sl.val, Sl.bs, and_true] at hd
          go_simp
          refine gives_enter ((bytes_any _ g2 q _ _ (d2e.step hb)).mono ?_)
          rintro e w2' ⟨P, n2', c2', rfl, o2, f2⟩
          exact ⟨_, rfl, f2, P, _, c2', rfl, o2.1, o2.cap.1, o2.cap.2, o2.bs⟩
        refine askI_cons (fun vs w1 hb hd => ?_) ?_
        · obtain ⟨A1, n1, c1, h1, h2, h3, h4, h5⟩ := hd.1
          have h6 := conv (c := c1) h2 h5
          clear h2 h3 h4 h5
          simp only [DepI, Region.binds, SlI, List.getD_cons_zero, List.getD_cons_succ, Sl.val, Sl.bs, and_true] at hd
          go_simp
          exact gives_pure rfl
        iterate 3 (refine askI_cons (fun vs w1 hb hd => ?_) ?_; (focus (simp only [DepI, Region.binds, SlI, List.getD_cons_zero, List.getD_cons_succ, Sl.val, Sl.bs, and_true] at hd; go_simp; exact gives_pure rfl)))
        exact askI_nil
      case hend17 =>
        intro vs w1 hb hd
        simp only [AllI, SlI, List.getD_cons_zero, List.getD_cons_succ, Sl.val, Sl.bs, and_true, Nat.reduceAdd] at hd
        have hlast := hd.2.2.2.2.2.2.2.2.2.2.2.2.2.2
        clear hd
        go_wp2
        go_ret
        exact ⟨by simp [hlast], b11.trans (hb.mono b11.size)⟩
end Go.Proofs.Ytcgkoojegopfnaa
