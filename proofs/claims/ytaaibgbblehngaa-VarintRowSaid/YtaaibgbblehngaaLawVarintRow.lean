/- The walk of the law VarintRow. -/
import Derived.Test.YtaaibgbblehngaaVintS
import Derived.Test.YtaaibgbblehngaaVintV
namespace Go.Proofs.Ytaaibgbblehngaa
open Go.RowKit

/-- Numbers laid down one behind the other. -/
def vcat (L : List Nat) : List UInt8 := (L.map vput).flatten
theorem vcat_snoc (L : List Nat) (k : Nat) (h : k < L.length) : vcat (L.take (k + 1)) = vcat (L.take k) ++ vput (L.getD k 0) := by
  unfold vcat
  rw [List.take_succ_eq_append_getElem h, List.map_append, List.flatten_append, List.getD_eq_getElem?_getD, List.getElem?_eq_getElem h]
  simp
theorem vcat_drop (L : List Nat) (k : Nat) (h : k < L.length) : vcat (L.drop k) = vput (L.getD k 0) ++ vcat (L.drop (k + 1)) := by
  unfold vcat
  rw [List.drop_eq_getElem_cons h, List.map_cons, List.flatten_cons, List.getD_eq_getElem?_getD, List.getElem?_eq_getElem h]
  rfl
theorem vcat_le (L : List Nat) : (vcat L).length ≤ 10 * L.length := by
  induction L with
  | nil => simp [vcat]
  | cons a L ih =>
    have h := vsize_le a
    unfold vsize at h
    unfold vcat at ih ⊢
    rw [List.map_cons, List.flatten_cons, List.length_append, List.length_cons]
    omega

/-- The slice's address that a cut 'b[k:]' keeps. -/
theorem Bs.cut {w : World} {B g off k c : Nat} {l : List UInt8} (h : Bs w B (some ⟨g, off, none⟩) l) (hk : l.length ≤ c) : Bs w B (if c = k then some ⟨g, off, none⟩ else some ⟨g, off + k, none⟩) (l.drop k) := by
  by_cases e : c = k
  · rw [if_pos e, List.drop_of_length_le (by omega)]
    exact Bs.nil
  · rw [if_neg e]
    exact h.drop k

set_option maxRecDepth 10000 in
set_option maxHeartbeats 1600000 in
theorem row_nat (w : World) (x y z : Nat) (hx : Hid (x < 18446744073709551616)) (hy : Hid (y < 18446744073709551616)) (hz : Hid (z < 18446744073709551616)) :
    Calls Try.prog 5 #[.int .u64 x, .int .u64 y, .int .u64 z] w fun e w' => e = .returned (.bool true) ∧ Below w.heap.size w w' := by
  obtain ⟨L, hL⟩ : ∃ L, [x, y, z] = L := ⟨_, rfl⟩
  have HL := Lib.hid (show L.length = 3 by rw [← hL]; rfl)
  have H64 : Hid (∀ k, L.getD k 0 < 18446744073709551616) := Lib.hid fun k => by
    rw [← hL]
    have := hx.out; have := hy.out; have := hz.out
    match k with
    | 0 => simpa
    | 1 => simpa
    | 2 => simpa
    | k + 3 => simp
  have hcells : ∀ W : World, ∀ k, k < 3 → (W.alloc (.cells #[.int .u64 x, .int .u64 y, .int .u64 z] 24)).cell? ⟨W.heap.size, k, none⟩ = some (.int .u64 ((L.getD k 0 : Nat) : Int)) := by
    intro W k hk
    rw [World.cell?_alloc_mark, ← hL]
    match k, hk with
    | 0, _ => rfl
    | 1, _ => rfl
    | 2, _ => rfl
  clear hL
  have HC := Lib.hid hcells
  clear hcells
  go_enter Try.func5, Try.ntmps5
  go_wp2_with fail
  refine (shown01_any _).mono ?_
  rintro e w1 ⟨rfl, b1⟩
  go_wp2_with fail
  have hc := HC.out w1
  obtain ⟨wl, hwl⟩ : ∃ wl, wl = w1.alloc (.cells #[.int .u64 x, .int .u64 y, .int .u64 z] 24) := ⟨_, rfl⟩
  have hsz : wl.heap.size = w1.heap.size + 1 := by rw [hwl, World.size_alloc]
  have bl : Below w.heap.size w wl := by rw [hwl]; exact b1.alloc b1.size _
  rw [← hwl] at hc ⊢
  have HC2 := Lib.hid hc
  have HSZ := Lib.hid hsz
  clear hc hsz HC hwl
  rw [← HSZ.out]
  go_loopw [9, 10] (fun r i wr => ∃ (k n : Nat) (A : Option Addr) (c : Nat), i = .int .i64 k ∧ k ≤ 3 ∧ r = .slice A n c ∧ n ≤ 30 ∧ Own wr wl.heap.size A n c (vcat (L.take k)) ∧ Below wl.heap.size wl wr) (fun _ i _ => 3 - (intOf i).toNat)
  case atStart => exact ⟨0, 0, some ⟨wl.heap.size, 0, none⟩, 0, rfl, by omega, rfl, by omega, Ob.empty (Nat.le_refl _), (Below.refl _ _).alloc (Nat.le_refl _) _⟩
  case round =>
    obtain ⟨k, n, A, c, rfl, hk, rfl, hn, oo, hb⟩ := hrel
    by_cases hlt : k < 3
    · have hsn := Lib.hid (vcat_snoc L k (by rw [HL.out]; exact hlt))
      have hck : wr.cell? ⟨w1.heap.size, k, none⟩ = some (.int .u64 ((L.getD k 0 : Nat) : Int)) := (hb.cell (p := ⟨w1.heap.size, k, none⟩) (by rw [HSZ.out]; exact Nat.lt_succ_self _)).trans (HC2.out k hlt)
      have hv := Lib.hid (H64.out k)
      have hle := Lib.hid (vcat_le (L.take (k + 1)))
      have hvl := vsize_le (L.getD k 0)
      generalize L.getD k 0 = v at *
      go_wp2_with fail
      refine (vput_any _ _ hv).mono ?_
      rintro e w2 ⟨P, c2, rfl, o2, f2⟩
      have oo2 := oo.step f2
      have hb2 : Below wl.heap.size wl w2 := hb.trans (f2.mono hb.size)
      have hpl := Lib.hid o2.1
      go_wp2_with (at_builtin; refine app rfl (.tmp 25) (.tmp 30) rfl rfl oo2 rfl hpl.out o2.bs (by omega) hb2.size ?_; intro A3 c3 w3 o3 g3 _; have b3 : Below wl.heap.size wl w3 := Own.grown oo2 hb2 g3)
      go_roundw
      case rel => exact ⟨k + 1, n + vsize v, A3, c3, by go_num, by omega, rfl, by have h1 := o3.1; have h2 := hle.out; rw [← hsn.out] at h1; rw [List.length_take, HL.out] at h2; omega, by rw [hsn.out]; exact o3, b3⟩
      case measure => simp [intOf]; omega
    · obtain rfl : k = 3 := by omega
      have hall : vcat (L.take 3) = vcat (L.drop 0) := by rw [List.take_of_length_le (by rw [HL.out]; omega)]; rfl
      rw [hall] at oo
      have HN := Lib.hid oo.1
      have hcap := oo.cap
      unfold maxLen at hcap
      obtain ⟨hc1, hc2⟩ := hcap
      have hs := oo.bs
      have b2 := bl.trans (hb.mono bl.size)
      have hcell := Lib.hid (fun k (hk : k < 3) => (hb.cell (p := ⟨w1.heap.size, k, none⟩) (by rw [HSZ.out]; exact Nat.lt_succ_self _)).trans (HC2.out k hk))
      clear hall oo hlt hb
      have e3 : ((3 : Nat) : Int) = 3 := rfl
      rw [e3]
      clear e3
      go_wp2_with fail
      obtain ⟨wm, rfl⟩ : ∃ wm : World, wm = wr := ⟨_, rfl⟩
      go_loop [6, 9, 11] (fun _ r i => ∃ (k n : Nat) (A : Option Addr) (c : Nat), i = .int .i64 k ∧ k ≤ 3 ∧ r = .slice A n c ∧ n ≤ 30 ∧ n ≤ c ∧ c ≤ 2 ^ 63 - 1 ∧ Hid ((vcat (L.drop k)).length = n) ∧ Bs wm wm.heap.size A (vcat (L.drop k))) (fun _ _ i => 3 - (intOf i).toNat)
      case atStart => exact ⟨0, n, A, c, rfl, by omega, rfl, hn, hc1, hc2, HN, hs⟩
      case round =>
        clear hn hc1 hc2 HN hs
        obtain ⟨k, n, A, c, rfl, hk, rfl, hn, hc1, hc2, HN, hs⟩ := hrel
        by_cases hlt : k < 3
        · have hd := vcat_drop L k (by rw [HL.out]; exact hlt)
          have hv := H64.out k
          have ht := vtake_put (L.getD k 0) (vcat (L.drop (k + 1))) hv
          rw [← hd] at ht
          have hl : (vput (L.getD k 0)).length + (vcat (L.drop (k + 1))).length = n := by rw [← HN.out, hd, List.length_append]
          have hvs : vsize (L.getD k 0) + (vcat (L.drop (k + 1))).length = n := hl
          have hvp := vsize_pos (L.getD k 0)
          obtain ⟨g, off, hA, _, _⟩ := id hs (by rw [HN.out]; omega)
          subst hA
          have hcut := Bs.cut (k := vsize (L.getD k 0)) hs (by rw [HN.out]; exact hc1)
          have hdr : (vcat (L.drop k)).drop (vsize (L.getD k 0)) = vcat (L.drop (k + 1)) := by rw [hd]; exact List.drop_left' (show (vput (L.getD k 0)).length = vsize (L.getD k 0) from rfl)
          rw [hdr] at hcut
          have hck := hcell.out k hlt
          have HT := Lib.hid ht
          have HL2 := Lib.hid hvs
          have hvn : vsize (L.getD k 0) ≤ n := by omega
          clear hd hv ht hl hdr hvs
          go_wp2_with fail
          refine (vtake_any _ (vcat (L.drop k)) n c _ HN.out (by omega) hs).mono ?_
          rintro e w2 ⟨rfl, rfl⟩
          rw [HT.out]
          generalize L.getD k 0 = v at *
          generalize vsize v = s at *
          have hd1 : decide ((s : Int) < 1) = false := by simp; omega
          have hd2 : decide (n < s) = false := by simp; omega
          by_cases hcs : c = s
          · rw [if_pos hcs] at hcut
            subst hcs
            clear HT
            go_wp2_with fail
            go_round
            case rel => exact ⟨k + 1, 0, some ⟨g, off, none⟩, 0, by go_num, by omega, rfl, by omega, by omega, by omega, Lib.hid (by have := HL2.out; omega), hcut⟩
            case measure => simp [intOf]; omega
          · rw [if_neg hcs] at hcut
            clear HT
            go_wp2_with fail
            go_round
            case rel => exact ⟨k + 1, n - s, some ⟨g, off + s, none⟩, c - s, by go_num, by omega, rfl, by omega, by omega, by omega, Lib.hid (by have := HL2.out; omega), hcut⟩
            case measure => simp [intOf]; omega
        · obtain rfl : k = 3 := by omega
          have hn0 : n = 0 := by rw [← HN.out, List.drop_of_length_le (by rw [HL.out]; omega)]; rfl
          have b3 : Below w.heap.size w wm := b2
          subst hn0
          have e3 : ((3 : Nat) : Int) = 3 := rfl
          rw [e3]
          clear e3 hc1 hs HN b2 hlt
          by_cases hxy : x = y
          · subst hxy
            clear hy
            go_wp2_with fail
            refine wp_region_inv (by kernel_rfl) [.val (.bool true), .val (.bool true), .val (.slice A 0 c), .val (.int .i64 0), .val (.bool true), .val (.bool true), .val (.bool true), .val (.int .u64 (x : Nat)), .bs (vput x), .val (.string (strOf (vput x))), .val (.int .u64 (x : Nat)), .bs (vput x), .val (.string (strOf (vput x))), .val (.bool true), .val (.int .u64 (x : Nat)), .val (.int .u64 (x : Nat)), .val (.bool true), .val (.bool true), .val (.bool true), .val (.bool true)] (T := ?TE) (by kernel_rfl) (by kernel_rfl) ?hTE ?haskE ?hendE
            case hTE =>
              intro vs
              simp only [fill, Act.put, List.setIfInBounds_toArray, List.set_cons_succ, List.set_cons_zero, Nat.reduceAdd]
              exact rfl
            case haskE =>
              iterate 8 (refine askI_cons (fun vs w1 hb hd => ?_) ?_; (focus (simp only [DepI, Region.binds, SlI, List.getD_cons_zero, List.getD_cons_succ, Sl.val, Sl.bs, and_true] at hd; go_simp; exact gives_pure rfl)))
              refine askI_cons (fun vs w1 hb hd => ?_) ?_
              · simp only [DepI, Region.binds, SlI, List.getD_cons_zero, List.getD_cons_succ, Sl.val, Sl.bs, and_true] at hd
                go_simp
                refine gives_enter ((vput_any x _ hx).mono ?_)
                rintro e w2 ⟨P, c2, rfl, o2, f2⟩
                exact ⟨_, rfl, f2, P, _, c2, rfl, rfl, o2.cap.1, o2.cap.2, o2.bs⟩
              refine askI_cons (fun vs w1 hb hd => ?_) ?_
              · obtain ⟨A1, n1, c1, h1, h2, h3, h4, h5⟩ := hd.1
                have h6 := conv (c := c1) h2 h5
                clear h2 h3 h4 h5
                simp only [DepI, Region.binds, SlI, List.getD_cons_zero, List.getD_cons_succ, Sl.val, Sl.bs, and_true] at hd
                go_simp
                exact gives_pure rfl
              refine askI_cons (fun vs w1 hb hd => ?_) ?_; (focus (simp only [DepI, Region.binds, SlI, List.getD_cons_zero, List.getD_cons_succ, Sl.val, Sl.bs, and_true] at hd; go_simp; exact gives_pure rfl))
              refine askI_cons (fun vs w1 hb hd => ?_) ?_
              · simp only [DepI, Region.binds, SlI, List.getD_cons_zero, List.getD_cons_succ, Sl.val, Sl.bs, and_true] at hd
                go_simp
                refine gives_enter ((vput_any x _ hx).mono ?_)
                rintro e w2 ⟨P, c2, rfl, o2, f2⟩
                exact ⟨_, rfl, f2, P, _, c2, rfl, rfl, o2.cap.1, o2.cap.2, o2.bs⟩
              refine askI_cons (fun vs w1 hb hd => ?_) ?_
              · obtain ⟨A1, n1, c1, h1, h2, h3, h4, h5⟩ := hd.1
                have h6 := conv (c := c1) h2 h5
                clear h2 h3 h4 h5
                simp only [DepI, Region.binds, SlI, List.getD_cons_zero, List.getD_cons_succ, Sl.val, Sl.bs, and_true] at hd
                go_simp
                exact gives_pure rfl
              iterate 7 (refine askI_cons (fun vs w1 hb hd => ?_) ?_; (focus (simp only [DepI, Region.binds, SlI, List.getD_cons_zero, List.getD_cons_succ, Sl.val, Sl.bs, and_true] at hd; go_simp; exact gives_pure rfl)))
              exact askI_nil
            case hendE =>
              intro vs w1 hb hd
              simp only [AllI, SlI, List.getD_cons_zero, List.getD_cons_succ, Sl.val, Sl.bs, and_true, Nat.reduceAdd] at hd
              have hlast := hd.2.2.2.2.2.2.2.2.2.2.2.2.2.2.2.2.2.2.2
              clear hd
              have d2 := b3.trans (hb.mono b3.size)
              go_wp2
              go_ret
              exact ⟨by simp [hlast], d2⟩
          · have hxy1 : (vput x == vput y) = false := by rw [beq_eq_false_iff_ne]; exact fun h => hxy (vput_inj hx.out hy.out h)
            have hxy2 : ((x : Int) == (y : Int)) = false := by rw [beq_eq_false_iff_ne]; omega
            have hst := str_eq (vput x) (vput y)
            clear hxy
            go_wp2_with fail
            refine wp_region_inv (by kernel_rfl) [.val (.bool true), .val (.bool true), .val (.slice A 0 c), .val (.int .i64 0), .val (.bool true), .val (.bool true), .val (.bool true), .val (.int .u64 (x : Nat)), .bs (vput x), .val (.string (strOf (vput x))), .val (.int .u64 (y : Nat)), .bs (vput y), .val (.string (strOf (vput y))), .val (.bool false), .val (.int .u64 (x : Nat)), .val (.int .u64 (y : Nat)), .val (.bool false), .val (.bool true), .val (.bool true), .val (.bool true)] (T := ?TN) (by kernel_rfl) (by kernel_rfl) ?hTN ?haskN ?hendN
            case hTN =>
              intro vs
              simp only [fill, Act.put, List.setIfInBounds_toArray, List.set_cons_succ, List.set_cons_zero, Nat.reduceAdd]
              exact rfl
            case haskN =>
              iterate 8 (refine askI_cons (fun vs w1 hb hd => ?_) ?_; (focus (simp only [DepI, Region.binds, SlI, List.getD_cons_zero, List.getD_cons_succ, Sl.val, Sl.bs, and_true] at hd; go_simp; exact gives_pure rfl)))
              refine askI_cons (fun vs w1 hb hd => ?_) ?_
              · simp only [DepI, Region.binds, SlI, List.getD_cons_zero, List.getD_cons_succ, Sl.val, Sl.bs, and_true] at hd
                go_simp
                refine gives_enter ((vput_any x _ hx).mono ?_)
                rintro e w2 ⟨P, c2, rfl, o2, f2⟩
                exact ⟨_, rfl, f2, P, _, c2, rfl, rfl, o2.cap.1, o2.cap.2, o2.bs⟩
              refine askI_cons (fun vs w1 hb hd => ?_) ?_
              · obtain ⟨A1, n1, c1, h1, h2, h3, h4, h5⟩ := hd.1
                have h6 := conv (c := c1) h2 h5
                clear h2 h3 h4 h5
                simp only [DepI, Region.binds, SlI, List.getD_cons_zero, List.getD_cons_succ, Sl.val, Sl.bs, and_true] at hd
                go_simp
                exact gives_pure rfl
              refine askI_cons (fun vs w1 hb hd => ?_) ?_; (focus (simp only [DepI, Region.binds, SlI, List.getD_cons_zero, List.getD_cons_succ, Sl.val, Sl.bs, and_true] at hd; go_simp; exact gives_pure rfl))
              refine askI_cons (fun vs w1 hb hd => ?_) ?_
              · simp only [DepI, Region.binds, SlI, List.getD_cons_zero, List.getD_cons_succ, Sl.val, Sl.bs, and_true] at hd
                go_simp
                refine gives_enter ((vput_any y _ hy).mono ?_)
                rintro e w2 ⟨P, c2, rfl, o2, f2⟩
                exact ⟨_, rfl, f2, P, _, c2, rfl, rfl, o2.cap.1, o2.cap.2, o2.bs⟩
              refine askI_cons (fun vs w1 hb hd => ?_) ?_
              · obtain ⟨A1, n1, c1, h1, h2, h3, h4, h5⟩ := hd.1
                have h6 := conv (c := c1) h2 h5
                clear h2 h3 h4 h5
                simp only [DepI, Region.binds, SlI, List.getD_cons_zero, List.getD_cons_succ, Sl.val, Sl.bs, and_true] at hd
                go_simp
                exact gives_pure rfl
              iterate 7 (refine askI_cons (fun vs w1 hb hd => ?_) ?_; (focus (simp only [DepI, Region.binds, SlI, List.getD_cons_zero, List.getD_cons_succ, Sl.val, Sl.bs, and_true] at hd; go_simp; exact gives_pure rfl)))
              exact askI_nil
            case hendN =>
              intro vs w1 hb hd
              simp only [AllI, SlI, List.getD_cons_zero, List.getD_cons_succ, Sl.val, Sl.bs, and_true, Nat.reduceAdd] at hd
              have hlast := hd.2.2.2.2.2.2.2.2.2.2.2.2.2.2.2.2.2.2.2
              clear hd
              have d2 := b3.trans (hb.mono b3.size)
              go_wp2
              go_ret
              exact ⟨by simp [hlast], d2⟩

theorem varintRow_walk (w : World) (a : Int) (ha : 0 ≤ a ∧ a ≤ 18446744073709551615) (b : Int) (hb : 0 ≤ b ∧ b ≤ 18446744073709551615) (c : Int) (hc : 0 ≤ c ∧ c ≤ 18446744073709551615) :
    Calls Try.prog 5 #[.int .u64 a, .int .u64 b, .int .u64 c] w fun e w' => e = .returned (.bool true) ∧ Below w.heap.size w w' := by
  obtain ⟨x, rfl⟩ := Int.eq_ofNat_of_zero_le ha.1
  obtain ⟨y, rfl⟩ := Int.eq_ofNat_of_zero_le hb.1
  obtain ⟨z, rfl⟩ := Int.eq_ofNat_of_zero_le hc.1
  exact row_nat w x y z (Lib.hid (by omega)) (Lib.hid (by omega)) (Lib.hid (by omega))
end Go.Proofs.Ytaaibgbblehngaa
