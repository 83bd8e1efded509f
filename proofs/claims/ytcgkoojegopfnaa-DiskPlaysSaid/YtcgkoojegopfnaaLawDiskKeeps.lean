/- The walk of the law DiskKeeps. -/
import Derived.Test.YtcgkoojegopfnaaDoes
import Derived.Test.YtcgkoojegopfnaaDiskK
import Derived.Test.YtcgkoojegopfnaaRegS
import Derived.Deep.DeepCutAuto
namespace Go.Proofs.Ytcgkoojegopfnaa
open Go.RowKit
set_option linter.unusedSimpArgs false
set_option linter.unusedVariables false

theorem Own.touch {w w' : World} {base n c g : Nat} {q : Option Nat} {A : Option Addr} {l : List UInt8} (h : Own w base A n c l) (ht : Touch w w' g q) (hg : g < base) (hq : ∀ k, q = some k → k < base) : Own w' base A n c l := by
  obtain ⟨hl, hlen, hv⟩ := h
  refine ⟨hl, hlen, ?_⟩
  rcases hv with hv | ⟨k, cap, cur, hv, hbk, hk, r⟩
  · exact .inl hv
  · refine .inr ⟨k, cap, cur, hv, hbk, ?_, r⟩
    have hlt : k < w.heap.size := (Array.getElem?_eq_some_iff.1 hk).1
    exact (ht.block k hlt (by omega) (fun e => by have := hq k e.symm; omega)).trans hk
theorem Blk.touch {w w' : World} {g k : Nat} {q : Option Nat} {t : TypeId} {cs : Array Value} (h : Blk w k t cs) (ht : Touch w w' g q) (h1 : k ≠ g) (h2 : some k ≠ q) : Blk w' k t cs := (ht.block k h.lt h1 h2).trans h
theorem Dk.glt {w : World} {base g : Nat} {q : Option Nat} {d : Dsk} (h : Dk w base g q d) : ∀ k, q = some k → k < w.heap.size := fun k hk => (h.q_lt k hk).2.1
theorem str_take (a b : List UInt8) (n : Nat) (h : a.take n = b) : (strOf (a.take n)) = strOf b := by rw [h]
theorem and7_bit (k : UInt8) (r : Nat) (h : k.toNat % 8 = r) : bits .and .u8 (k.toNat : Int) 7 = (r : Int) := by rw [← h]; exact u8_and7 k

theorem Dk.grown {w w' : World} {base g : Nat} {q row : Option Nat} {d : Dsk} (h : Dk w base g q d) (hg : w.grownBy w' row) (h1 : some g ≠ row) (h2 : ∀ k, q = some k → row ≠ some k) : Dk w' base g q d := by
  obtain ⟨hb, hok, A, n, c, rfl, hbk, ho⟩ := h
  refine ⟨hb, hok, A, n, c, rfl, hbk.grown hg h1, ho.kept hg fun a ha => h2 a.block ?_⟩
  subst ha
  rfl
/-- What is known at the head of the loop. -/
structure KeepRel (L : List Opn) (w wr : World) (base g : Nat) (v : Value) (k : Nat) : Prop where
  below : Below w.heap.size w wr
  hbase : base ≤ wr.heap.size
  disk : ∃ q d A n c, v = .slice A n c ∧ Dk wr base g q d ∧ d.inv ∧ d.b.length = n ∧ n ≤ c ∧ c ≤ maxLen ∧ Bs wr wr.heap.size A d.b

set_option maxRecDepth 100000 in
set_option maxHeartbeats 3200000 in
theorem diskKeeps_walk (w : World) (A : Option Addr) (L : List Opn) (n c : Nat) (hn : L.length = n) (hc : n ≤ c) (hm : c ≤ maxLen) (hA : Po w w.heap.size A L) :
    Calls Try.prog 4 #[.slice A n c] w fun e w' => e = .returned (.bool true) ∧ Below w.heap.size w w' := by
  unfold maxLen at hm
  have HN := Lib.hid hn
  clear hn
  go_enter Try.func4, Try.ntmps4
  go_wp2_with fail
  refine (shown14_any _).mono ?_
  rintro e w1 ⟨rfl, b1⟩
  go_wp2_with fail
  refine (new_any _).mono ?_
  rintro e w2 ⟨g, rfl, d0, f2⟩
  have b2 := chain b1 f2
  have hgb : w.heap.size ≤ g := Nat.le_trans b1.size d0.ge
  have hbb := b1.size
  have hsz2 := f2.size
  clear f2
  go_wp2_with fail
  have start : KeepRel L w (w2.alloc (.cells #[] 5)) w1.heap.size g (.slice (some ⟨w2.heap.size, 0, none⟩) 0 0) 0 := by
    have hb3 := (Below.refl w2.heap.size w2).alloc (Nat.le_refl _) (.cells #[] 5)
    exact ⟨b2.alloc b2.size _, Nat.le_trans hsz2 hb3.size, none, dNew, _, 0, 0, rfl, d0.step hb3, dNew_inv, rfl, Nat.le_refl _, Nat.zero_le _, Bs.nil⟩
  clear d0 b2 hsz2
  go_loopw [5, 6] (fun v i wr => ∃ k : Nat, i = .int .i64 k ∧ k ≤ n ∧ k ≤ 40 ∧ KeepRel L w wr w1.heap.size g v k) (fun _ i _ => n - (intOf i).toNat)
  case atStart => exact ⟨0, rfl, by omega, by omega, start⟩
  case round =>
    clear start
    obtain ⟨k, rfl, hk, hk40, hrel⟩ := hrel
    obtain ⟨hb, hbase, q, d, Av, nv, cv, rfl, dk, hinv, hnv, hcv, hmv, hAv⟩ := hrel
    have hb0 := hb
    have hglt := dk.g_lt
    have hnv64 : nv ≤ 65536 := by have := hinv.1.2; omega
    have hqlt := dk.glt
    by_cases hlt : k < n ∧ k < 40
    · obtain ⟨hlt, hlt40⟩ := hlt
      have hx : L[k]? = some (L[k]'(by rw [HN.out]; exact hlt)) := List.getElem?_eq_getElem _
      obtain ⟨b, off, Ac, cc, rfl, hbB, c0, c1, c2, hcc, hcm, hxn, hAc⟩ := (hA.below hb) k _ hx
      clear hx
      generalize L[k]'(by rw [HN.out]; exact hlt) = x at *
      obtain ⟨r, hr⟩ : ∃ r, x.kind.toNat % 8 = r := ⟨_, rfl⟩
      have h7 := and7_bit x.kind r hr
      have HR := Lib.hid hr
      have hr8 : r < 8 := by omega
      clear hr
      by_cases h5 : r = 5
      · subst h5
        have h7' : bits .and .u8 (x.kind.toNat : Int) 7 = 5 := h7
        clear h7
        go_wp2_with fail
        have hb3 := (Below.refl wr.heap.size wr).alloc (Nat.le_refl _) (.cells #[.int .u8 (x.kind.toNat : Int), .int .i64 x.n, .slice Ac x.b.length cc] 35)
        go_roundw
        case rel => exact ⟨k + 1, by go_num, by omega, by omega, hb.alloc hb.size _, Nat.le_trans hbase hb3.size, q, d, Av, nv, cv, rfl, dk.step hb3, hinv, hnv, hcv, hmv, hAv.step hb3⟩
        case measure => simp [intOf]; omega
      · have h5' : (((r : Nat) : Int) == 5) = false := by simp; omega
        obtain ⟨mb, hmmb⟩ : ∃ mb, mb = min x.b.length 3000 := ⟨_, rfl⟩
        have hlmb : (x.b.take 3000).length = mb := by rw [List.length_take]; omega
        have hmb3 : mb ≤ 3000 := by omega
        have hmbc : mb ≤ cc := by omega
        have HMB0 := Lib.hid hmmb
        have HMB := Lib.hid hlmb
        have hTA := hAc.take 3000
        obtain ⟨y, hy⟩ : ∃ y, x.b.take 3000 = y := ⟨_, rfl⟩
        rw [hy] at hTA HMB
        have HYT := Lib.hid (show y.take 3000 = y by rw [← hy, List.take_take, Nat.min_self])
        have HNV := Lib.hid hnv
        clear hmmb hlmb hy hAc hnv
        go_upto_if 42 with (fail)
        go_cut [] (fun wx => Below wr.heap.size wr wx ∧ wr.heap.size < wx.heap.size ∧ Blk wx wr.heap.size 35 #[.int .u8 (x.kind.toNat : Int), .int .i64 x.n, .slice Ac mb cc])
        case first =>
          by_cases h30 : 3000 < x.b.length
          · obtain rfl : mb = 3000 := by have := HMB0.out; omega
            have h30c : 3000 ≤ cc := by omega
            go_wp2_with fail
            go_meet
            exact ⟨(Below.refl _ _).alloc (Nat.le_refl _) _, by simp, Blk.new wr _ _⟩
          · have hmm : x.b.length = mb := by have := HMB0.out; omega
            have h30' : decide (3000 < x.b.length) = false := by simp; omega
            rw [hmm] at c2 ⊢
            clear hmm
            go_wp2_with fail
            go_meet
            exact ⟨(Below.refl _ _).alloc (Nat.le_refl _) _, by simp, Blk.new wr _ _⟩
        case rest =>
          obtain ⟨hbc, hszc, hK⟩ := hcut
          clear c0 c1 c2
          have bc := chain hb hbc
          have dc := dk.step hbc
          have hAvc := hAv.step hbc
          have hbc2 := Nat.le_trans hbase hbc.size
          have hTc := (hTA.below (hbc.mono hb.size)).more bc.size
          clear hb hbc dk hAv
          have c0 := hK.cell 0
          have c1 := hK.cell 1
          have c2 := hK.cell 2
          simp only [List.getElem?_toArray, List.getElem?_cons_zero, List.getElem?_cons_succ] at c0 c1 c2
          have hgw : g < wr.heap.size := hglt
          have he := Ob.empty (w := wc) (base := wc.heap.size) (E := 5) (Nat.le_refl _)
          have hbe : Below wc.heap.size wc (wc.alloc (.cells #[] 5)) := (Below.refl _ _).alloc (Nat.le_refl _) _
          have hAe := (hAvc.below hbe).more hbe.size
          go_wp2_with (at_builtin; refine app rfl (.tmp 47) (.tmp 48) rfl rfl he rfl HNV.out hAe (by omega) (by simp) ?_; intro A2 c2' w3 o3 g3 hA2; have b3 : Below wc.heap.size wc w3 := Own.grown he hbe g3)
          rw [Nat.zero_add] at o3
          simp only [List.nil_append] at o3
          have hrow : ∀ k, (Value.slice A2 nv c2').ownBlock = some k → wc.heap.size ≤ k ∧ k < w3.heap.size := fun k hk => ⟨(o3.ov.row k hk).1, (o3.ov.row k hk).2.1⟩
          have d3 := dc.step b3
          have bb3 := chain bc b3
          have hK3 := hK.below b3 hK.lt
          have hT3 := hTc.step b3
          have hs3 := b3.size
          clear hAe hbe he g3 hA2 hAvc hTc dc hK c0 c1 c2 bc
          go_wp2_with fail
          refine (synced_any _ g q d _ d3).mono ?_
          rintro e w' ⟨rfl, rfl⟩
          have c0 := hK3.cell 0
          have c1 := hK3.cell 1
          have c2 := hK3.cell 2
          simp only [List.getElem?_toArray, List.getElem?_cons_zero, List.getElem?_cons_succ] at c0 c1 c2
          go_wp2_with fail
          refine (does_any _ g q d x.kind x.n Ac y mb cc _ d3 (by omega) HMB.out hmbc hcm hT3).mono ?_
          rintro e w4 ⟨q4, rfl, d4, t4, m4⟩
          rw [HYT.out, HR.out] at d4 ⊢
          have b4 := Touch.below bb3 t4 hgb (fun k hk => Nat.le_trans hbb (d3.qge k hk))
          have o4 := o3.touch t4 (by omega) (fun k hk => by have := hqlt k hk; omega)
          have hK4 := hK3.touch t4 (by omega) (fun e => by have := hqlt _ e.symm; omega)
          have hT4 := (hTA.below (show Below w.heap.size wr w4 from ⟨b4.os.trans hb0.os.symm, b4.tape.trans hb0.tape.symm, b4.output.trans hb0.output.symm, by have := t4.size; omega, fun k hk => (b4.block k hk).trans (hb0.block k hk).symm⟩)).more b4.size
          have hs4 := t4.size
          clear d3 t4 bb3 o3 hK3 hT3 c0 c1 c2 b3
          obtain ⟨⟨d', e'⟩, hde⟩ : ∃ p, opDo d r x.n y = p := ⟨_, rfl⟩
          have HP := Lib.hid (opDo_keeps d r x.n y hinv h5 d' e' hde)
          rw [hde] at d4 ⊢
          clear hde
          go_wp2_with fail
          refine (bytes_any _ g q4 _ _ d4).mono ?_
          rintro e w5 ⟨P5, n5, c5, rfl, o5, f5⟩
          have d5 := d4.step f5
          have b5 := chain b4 f5
          have hK5 := hK4.below f5 hK4.lt
          have o6 := o4.step f5
          have hT5 := hT4.step f5
          have hs5 := f5.size
          clear d4 b4 hK4 o4 hT4 f5
          have c0 := hK5.cell 0
          have c2 := hK5.cell 2
          simp only [List.getElem?_toArray, List.getElem?_cons_zero, List.getElem?_cons_succ] at c0 c2
          obtain ⟨ap, hap⟩ : ∃ ap : Bool, ap = decide (r = 0 ∧ e' = 0) := ⟨_, rfl⟩
          have HAP := Lib.hid hap
          clear hap
          go_upto_region 18 with (fail)
          go_cut [65] (fun v wx => v = .bool ap ∧ wx = w5)
          case first =>
            by_cases hr0 : r = 0
            · subst hr0
              have h7' : bits .and .u8 (x.kind.toNat : Int) 7 = 0 := h7
              clear h7
              by_cases he0 : e' = 0
              · subst he0
                obtain rfl : ap = true := by rw [HAP.out]; rfl
                go_wp2_with fail
                go_meet
                exact ⟨rfl, rfl⟩
              · obtain rfl : ap = false := by rw [HAP.out]; simp [he0]
                have he1 : (e' == 0) = false := by simpa using he0
                go_wp2_with fail
                go_meet
                exact ⟨rfl, rfl⟩
            · obtain rfl : ap = false := by rw [HAP.out]; simp [hr0]
              have hr1 : (((r : Nat) : Int) == 0) = false := by simp; omega
              go_wp2_with fail
              go_meet
              exact ⟨rfl, rfl⟩
          case rest =>
            obtain ⟨rfl, hwc⟩ := hcut
            subst hwc
            obtain ⟨W, hW⟩ : ∃ W, opWant d r e' y = W := ⟨_, rfl⟩
            rw [hW] at HP
            have HW := Lib.hid hW
            clear hW
            have hn5 : d'.b.length = n5 := o5.1
            have hn64 : n5 ≤ 65536 := by have := d5.2.1.2; omega
            have HN5 := Lib.hid hn5
            clear hn5
            have hs6 : w4.heap.size ≤ wc.heap.size := hs5
            go_upto_if 65 with (fail)
            go_cut [11] (fun v wx => ∃ Aw nw cw, v = .slice Aw nw cw ∧ W.length = nw ∧ nw ≤ cw ∧ cw ≤ maxLen ∧ nw ≤ 100000 ∧ Bs wx wx.heap.size Aw W ∧ Dk wx w1.heap.size g q4 d' ∧ Own wx w4.heap.size P5 n5 c5 d'.b ∧ Below w.heap.size w wx)
            case first =>
              cases ap
              · have hWe : W = d.b := by rw [← HW.out]; unfold opWant; rw [if_neg (by have := HAP.out; simpa using this)]
                have HWE := Lib.hid hWe
                clear hWe
                go_wp2_with fail
                go_meet
                exact ⟨A2, nv, c2', rfl, by rw [HWE.out]; exact o6.1, o6.cap.1, o6.cap.2, by omega, by rw [HWE.out]; exact o6.bs, d5, o5, b5⟩
              · have hWe : W = d.b ++ y := by rw [← HW.out]; unfold opWant; rw [if_pos (by have := HAP.out; simpa using this)]
                have HWE := Lib.hid hWe
                clear hWe
                go_wp2_with (at_builtin; refine app rfl (.tmp 66) (.tmp 68) rfl rfl o6 rfl HMB.out hT5 (by omega) (by omega) ?_; intro A7 c7 w7 o7 g7 hA7)
                go_meet
                refine ⟨A7, nv + mb, c7, rfl, by rw [HWE.out]; exact o7.1, o7.cap.1, o7.cap.2, by omega, by rw [HWE.out]; exact o7.bs, d5.grown g7 (fun e => ?_) (fun k hk e => ?_), o5.kept g7 (fun a ha e => ?_), b5.trans (Own.belowB o6 (by omega) b5.size g7)⟩
                · have := hrow g e.symm; omega
                · have h1 := hrow k e
                  rcases m4 with m4 | ⟨k2, m4, h2⟩
                  · have := hqlt k (by rw [← m4]; exact hk); omega
                  · rw [m4] at hk; injection hk with hk; omega
                · have h1 := hrow a.block e
                  have h2 := (o5.ov.row a.block (by rw [ha]; rfl)).1
                  omega
            case rest =>
              obtain ⟨Aw, nw, cw, rfl, hWl, hncw, hcwm, hnw, hBW, d6, o6', b6⟩ := hcut
              clear d5 b5 hK5 o6 hT5 c0 c2 o5
              unfold maxLen at hcwm
              obtain ⟨k0, k1, k2, k3, k4, k5, k6, k7⟩ := HP.out
              rw [HN5.out] at k1 k2 k3 k5 k6 k7
              rw [hWl] at k2 k6
              have hWt := hBW.take n5
              rw [k3] at hWt
              have K3 := Lib.hid k3
              have K0 := Lib.hid k0
              have K6 := Lib.hid k6
              have K7 := Lib.hid k7
              have HWL := Lib.hid hWl
              have f1 : decide (n5 < d.syn) = false := by simp; omega
              have f2 : decide (nw < n5) = false := by simp; omega
              have f3 : decide (d'.syn < d.syn) = false := by simp; omega
              have f4 : decide (n5 < d'.syn) = false := by simp; omega
              have hncw5 : n5 ≤ cw := by omega
              clear k0 k3 k6 k7 hWl HP
              go_wp2_with fail
              refine wp_region_inv (by kernel_rfl) [.val (.int .i64 (d.syn : Nat)), .val (.bool false), .val (.bool false), .val (.int .i64 (d.syn : Nat)), .val (.slice P5 n5 c5), .val (.int .i64 n5), .val (.bool false), .val (.bool false), .val (.bool false), .val (.slice P5 n5 c5), .val (.int .i64 n5), .val (.slice Aw nw cw), .val (.int .i64 nw), .val (.bool false), .val (.bool false), .val (.bool false), .val (.slice P5 n5 c5), .val (.string (strOf d'.b)), .val (.slice Aw nw cw), .val (.slice P5 n5 c5), .val (.int .i64 n5), .val (.slice Aw n5 cw), .val (.string (strOf d'.b)), .val (.bool false), .val (.bool false), .val (.bool false), .val (.pointer (some ⟨g, 0, none⟩)), .val (.int .i64 (d'.syn : Nat)), .val (.int .i64 (d.syn : Nat)), .val (.bool false), .val (.bool false), .val (.bool false), .val (.pointer (some ⟨g, 0, none⟩)), .val (.int .i64 (d'.syn : Nat)), .val (.slice P5 n5 c5), .val (.int .i64 n5), .val (.bool false), .val (.bool false)] (T := ?T20) (by kernel_rfl) (by kernel_rfl) ?hT20 ?hask20 ?hend20
              case hT20 =>
                intro vs
                simp only [fill, Act.put, List.setIfInBounds_toArray, List.set_cons_succ, List.set_cons_zero, Nat.reduceAdd]
                exact rfl
              case hask20 =>
                iterate 17 (refine askI_cons (fun vs w1 hb hd => ?_) ?_; (focus (simp only [DepI, Region.binds, SlI, List.getD_cons_zero, List.getD_cons_succ, Sl.val, and_true] at hd; go_simp; exact gives_pure rfl)))
                refine askI_cons (fun vs w1 hb hd => ?_) ?_
                · simp only [DepI, Region.binds, SlI, List.getD_cons_zero, List.getD_cons_succ, Sl.val, and_true] at hd
                  have h6 := conv (c := c5) HN5.out (o6'.step hb).bs
                  go_simp
                  exact gives_pure rfl
                iterate 4 (refine askI_cons (fun vs w1 hb hd => ?_) ?_; (focus (simp only [DepI, Region.binds, SlI, List.getD_cons_zero, List.getD_cons_succ, Sl.val, and_true] at hd; go_simp; exact gives_pure rfl)))
                refine askI_cons (fun vs w1 hb hd => ?_) ?_
                · simp only [DepI, Region.binds, SlI, List.getD_cons_zero, List.getD_cons_succ, Sl.val, and_true] at hd
                  have h6 := conv (c := cw) HN5.out (hWt.step hb)
                  go_simp
                  exact gives_pure rfl
                iterate 4 (refine askI_cons (fun vs w1 hb hd => ?_) ?_; (focus (simp only [DepI, Region.binds, SlI, List.getD_cons_zero, List.getD_cons_succ, Sl.val, and_true] at hd; go_simp; exact gives_pure rfl)))
                refine askI_cons (fun vs w1 hb hd => ?_) ?_
                · simp only [DepI, Region.binds, SlI, List.getD_cons_zero, List.getD_cons_succ, Sl.val, and_true] at hd
                  go_simp
                  refine gives_enter ((synced_any _ g q4 d' _ (d6.step hb)).mono ?_)
                  rintro e w2 ⟨rfl, rfl⟩
                  exact ⟨_, rfl, Below.refl _ _, rfl⟩
                iterate 5 (refine askI_cons (fun vs w1 hb hd => ?_) ?_; (focus (simp only [DepI, Region.binds, SlI, List.getD_cons_zero, List.getD_cons_succ, Sl.val, and_true] at hd; go_simp; exact gives_pure rfl)))
                refine askI_cons (fun vs w1 hb hd => ?_) ?_
                · simp only [DepI, Region.binds, SlI, List.getD_cons_zero, List.getD_cons_succ, Sl.val, and_true] at hd
                  go_simp
                  refine gives_enter ((synced_any _ g q4 d' _ (d6.step hb)).mono ?_)
                  rintro e w2 ⟨rfl, rfl⟩
                  exact ⟨_, rfl, Below.refl _ _, rfl⟩
                iterate 4 (refine askI_cons (fun vs w1 hb hd => ?_) ?_; (focus (simp only [DepI, Region.binds, SlI, List.getD_cons_zero, List.getD_cons_succ, Sl.val, and_true] at hd; go_simp; exact gives_pure rfl)))
                exact askI_nil
              case hend20 =>
                intro vs w1 hb hd
                simp only [AllI, SlI, List.getD_cons_zero, List.getD_cons_succ, Sl.val, and_true, Nat.reduceAdd] at hd
                have hlast := hd.2.2.2.2.2.2.2.2.2.2.2.2.2.2.2.2.2.2.2.2.2.2.2.2.2.2.2.2.2.2.2.2.2.2.2.2.2
                clear hd
                have b7 := b6.trans (hb.mono b6.size)
                have d7 := d6.step hb
                have o7 := o6'.step hb
                clear f1 f2 f3 f4
                generalize vs 37 = v20 at *
                subst hlast
                clear d6 o6' b6 hWt hBW
                have hge := Nat.le_trans d7.ge (Nat.le_of_lt d7.g_lt)
                have hcap := o7.cap
                cases hdn : d'.down
                · have hnn : nw = n5 := (K6.out hdn).symm
                  have HDN := Lib.hid hdn
                  clear hdn
                  subst hnn
                  go_wp2_with fail
                  refine (down_any _ g q4 d' _ d7).mono ?_
                  rintro e w' ⟨rfl, rfl⟩
                  rw [HDN.out]
                  go_wp2_with fail
                  refine (down_any _ g q4 d' _ d7).mono ?_
                  rintro e w' ⟨rfl, rfl⟩
                  rw [HDN.out]
                  go_wp2_with fail
                  go_roundw
                  case rel => exact ⟨k + 1, by go_num, by omega, by omega, b7, hge, q4, d', P5, nw, c5, rfl, d7, K0.out, HN5.out, hcap.1, hcap.2, o7.bs⟩
                  case measure => simp [intOf]; omega
                · have hss : d'.syn = n5 := K7.out hdn
                  have HDN := Lib.hid hdn
                  have HSS := Lib.hid hss
                  clear hdn hss
                  go_wp2_with fail
                  refine (down_any _ g q4 d' _ d7).mono ?_
                  rintro e w' ⟨rfl, rfl⟩
                  rw [HDN.out]
                  go_wp2_with fail
                  refine (down_any _ g q4 d' _ d7).mono ?_
                  rintro e w' ⟨rfl, rfl⟩
                  rw [HDN.out]
                  go_wp2_with fail
                  refine (synced_any _ g q4 d' _ d7).mono ?_
                  rintro e w' ⟨rfl, rfl⟩
                  rw [HSS.out]
                  go_wp2_with fail
                  go_roundw
                  case rel => exact ⟨k + 1, by go_num, by omega, by omega, b7, hge, q4, d', P5, n5, c5, rfl, d7, K0.out, HN5.out, hcap.1, hcap.2, o7.bs⟩
                  case measure => simp [intOf]; omega
    · by_cases h1 : k < n
      · obtain rfl : k = 40 := by omega
        go_wp2_with fail
        go_ret
        exact ⟨rfl, hb⟩
      · obtain rfl : k = n := by omega
        go_wp2_with fail
        go_ret
        exact ⟨rfl, hb⟩
end Go.Proofs.Ytcgkoojegopfnaa
