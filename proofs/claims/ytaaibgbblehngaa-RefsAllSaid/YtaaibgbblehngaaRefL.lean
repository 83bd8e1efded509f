/- The walks of the reference's Same, SameAll (chapter 06). -/
import Derived.Test.YtaaibgbblehngaaRefK
namespace Go.Proofs.Ytaaibgbblehngaa
open Go.RowKit

set_option maxRecDepth 10000 in
set_option maxHeartbeats 800000 in
/-- Two snapshots that are alike are told alike. -/
theorem same_any (x : Snp) (Aa Ab : Option Addr) (ca cb : Nat) (w : World) (hc : x.chunks.length ≤ ca) (hm : ca ≤ maxLen) (hA : Is w w.heap.size Aa x.chunks) (hB : Is w w.heap.size Ab x.chunks) :
    Calls Try.prog 45 #[.agg #[.int .i64 x.id, .int .i64 x.set, .slice Aa x.chunks.length ca, .bool x.held, .string x.tag], .agg #[.int .i64 x.id, .int .i64 x.set, .slice Ab x.chunks.length cb, .bool x.held, .string x.tag]] w fun e w' => e = .returned (.bool true) ∧ Below w.heap.size w w' := by
  have b1 := (Below.refl w.heap.size w).alloc (Nat.le_refl _) (.cells #[.int .i64 x.id, .int .i64 x.set, .slice Aa x.chunks.length ca, .bool x.held, .string x.tag] TS)
  have b2 := b1.alloc b1.size (.cells #[.int .i64 x.id, .int .i64 x.set, .slice Ab x.chunks.length cb, .bool x.held, .string x.tag] TS)
  have hA2 := (hA.below b2).more b2.size
  have hB2 := (hB.below b2).more b2.size
  have k1 := (Blk.new w TS #[.int .i64 x.id, .int .i64 x.set, .slice Aa x.chunks.length ca, .bool x.held, .string x.tag]).alloc (.cells #[.int .i64 x.id, .int .i64 x.set, .slice Ab x.chunks.length cb, .bool x.held, .string x.tag] TS)
  have k2 := Blk.new (w.alloc (.cells #[.int .i64 x.id, .int .i64 x.set, .slice Aa x.chunks.length ca, .bool x.held, .string x.tag] TS)) TS #[.int .i64 x.id, .int .i64 x.set, .slice Ab x.chunks.length cb, .bool x.held, .string x.tag]
  rw [World.size_alloc] at k2
  unfold TS at b1 b2 hA2 hB2 k1 k2
  go_enter Try.func45, Try.ntmps45
  go_wp2_with fail
  generalize hw2 : (w.alloc (.cells #[.int .i64 x.id, .int .i64 x.set, .slice Aa x.chunks.length ca, .bool x.held, .string x.tag] 42)).alloc (.cells #[.int .i64 x.id, .int .i64 x.set, .slice Ab x.chunks.length cb, .bool x.held, .string x.tag] 42) = w2 at *
  have hs2 : w.heap.size + 2 ≤ w2.heap.size := by rw [← hw2]; simp
  clear hw2 b1
  refine (ints_any Aa Ab x.chunks _ ca cb _ rfl hc hm hA2 hB2).mono ?_
  rintro e w3 ⟨rfl, f3⟩
  have j1 := k1.below f3 (by omega)
  have j2 := k2.below f3 (by omega)
  have c0 := j1.cell 0
  have c1 := j1.cell 1
  have c3 := j1.cell 3
  have c4 := j1.cell 4
  have d0 := j2.cell 0
  have d1 := j2.cell 1
  have d3 := j2.cell 3
  have d4 := j2.cell 4
  simp only [List.getElem?_toArray, List.getElem?_cons_zero, List.getElem?_cons_succ] at c0 c1 c3 c4 d0 d1 d3 d4
  have b3 := b2.trans (f3.mono b2.size)
  clear j1 j2 k1 k2 hA2 hB2 f3 b2
  go_wp2_with fail
  go_ret
  exact ⟨by simp, b3⟩

set_option maxRecDepth 100000 in
set_option maxHeartbeats 1600000 in
theorem sameAll_any (A B : Option Addr) (L : List Snp) (n ca0 cb0 : Nat) (w : World) (hn : L.length = n) (hnb : n ≤ 1000) (hA : Sn w w.heap.size A L) (hB : Sn w w.heap.size B L) :
    Calls Try.prog 34 #[.slice A n ca0, .slice B n cb0] w fun e w' => e = .returned (.bool true) ∧ Below w.heap.size w w' := by
  have HN := Lib.hid hn
  clear hn
  go_enter Try.func34, Try.ntmps34
  go_wp2_with fail
  go_loopw [4, 5] (fun _ i wr => ∃ k : Nat, i = .int .i64 k ∧ k ≤ n ∧ Below w.heap.size w wr) (fun _ i _ => n - (intOf i).toNat)
  case atStart => exact ⟨0, rfl, by omega, Below.refl _ _⟩
  case round =>
    obtain ⟨k, rfl, hk, hb0⟩ := hrel
    by_cases hlt : k < n
    · have hx : L[k]? = some (L[k]'(by rw [HN.out]; exact hlt)) := List.getElem?_eq_getElem _
      obtain ⟨ga, oa, Aa, ca, rfl, galt0, gac0, gac1, gac2, gac3, gac4, gacc, gacm, gai0⟩ := (hA.below hb0).at_ hx
      obtain ⟨gb, ob, Ab, cb, rfl, gblt0, gbc0, gbc1, gbc2, gbc3, gbc4, gbcc, gbcm, gbi0⟩ := (hB.below hb0).at_ hx
      clear hx
      generalize L[k]'(by rw [HN.out]; exact hlt) = x at *
      have gai := gai0.more hb0.size
      have gbi := gbi0.more hb0.size
      have galt : ga < wr.heap.size := Nat.lt_of_lt_of_le galt0 hb0.size
      have gblt : gb < wr.heap.size := Nat.lt_of_lt_of_le gblt0 hb0.size
      have hk0 : (0 : Int) ≤ (k : Int) := by omega
      have hkn : (k : Int) < (n : Int) := by omega
      clear gai0 gbi0 galt0 gblt0
      go_wp2_with fail
      refine wp_region_inv (by kernel_rfl) [.val (.slice (some ⟨ga, oa, none⟩) n ca0), .val (.int .i64 (k : Nat)), .val (.pointer (some ⟨ga, oa + k * 5, none⟩)), .val (.agg #[.int .i64 x.id, .int .i64 x.set, .slice Aa x.chunks.length ca, .bool x.held, .string x.tag]), .val (.slice (some ⟨gb, ob, none⟩) n cb0), .val (.int .i64 (k : Nat)), .val (.pointer (some ⟨gb, ob + k * 5, none⟩)), .val (.agg #[.int .i64 x.id, .int .i64 x.set, .slice Ab x.chunks.length cb, .bool x.held, .string x.tag]), .val (.bool true), .val (.bool true)] (T := ?T) (by kernel_rfl) (by kernel_rfl) ?hT ?hask ?hend
      case hT =>
        intro vs
        simp only [fill, Act.put, List.setIfInBounds_toArray, List.set_cons_succ, List.set_cons_zero, Nat.reduceAdd]
        exact rfl
      case hask =>
        iterate 3 (refine askI_cons (fun vs w1 hb hd => ?_) ?_; (focus (simp only [DepI, Region.binds, SlI, List.getD_cons_zero, List.getD_cons_succ, Sl.val, and_true] at hd; go_simp; exact gives_pure rfl)))
        refine askI_cons (fun vs w1 hb hd => ?_) ?_
        · have d0 := (hb.cell (p := ⟨ga, oa + k * 5, none⟩) galt).trans gac0
          have d1 := (hb.cell (p := ⟨ga, oa + k * 5 + 1, none⟩) galt).trans gac1
          have d2 := (hb.cell (p := ⟨ga, oa + k * 5 + 2, none⟩) galt).trans gac2
          have d3 := (hb.cell (p := ⟨ga, oa + k * 5 + 3, none⟩) galt).trans gac3
          have d4 := (hb.cell (p := ⟨ga, oa + k * 5 + 4, none⟩) galt).trans gac4
          simp only [DepI, Region.binds, SlI, List.getD_cons_zero, List.getD_cons_succ, Sl.val, and_true] at hd
          go_simp
          exact gives_pure rfl
        iterate 3 (refine askI_cons (fun vs w1 hb hd => ?_) ?_; (focus (simp only [DepI, Region.binds, SlI, List.getD_cons_zero, List.getD_cons_succ, Sl.val, and_true] at hd; go_simp; exact gives_pure rfl)))
        refine askI_cons (fun vs w1 hb hd => ?_) ?_
        · have d0 := (hb.cell (p := ⟨gb, ob + k * 5, none⟩) gblt).trans gbc0
          have d1 := (hb.cell (p := ⟨gb, ob + k * 5 + 1, none⟩) gblt).trans gbc1
          have d2 := (hb.cell (p := ⟨gb, ob + k * 5 + 2, none⟩) gblt).trans gbc2
          have d3 := (hb.cell (p := ⟨gb, ob + k * 5 + 3, none⟩) gblt).trans gbc3
          have d4 := (hb.cell (p := ⟨gb, ob + k * 5 + 4, none⟩) gblt).trans gbc4
          simp only [DepI, Region.binds, SlI, List.getD_cons_zero, List.getD_cons_succ, Sl.val, and_true] at hd
          go_simp
          exact gives_pure rfl
        refine askI_cons (fun vs w1 hb hd => ?_) ?_
        · simp only [DepI, Region.binds, SlI, List.getD_cons_zero, List.getD_cons_succ, Sl.val, and_true] at hd
          go_simp
          refine gives_enter ((same_any x Aa Ab ca cb _ gacc gacm (gai.step hb) (gbi.step hb)).mono ?_)
          rintro e w2 ⟨rfl, f2⟩
          exact ⟨_, rfl, f2, rfl⟩
        refine askI_cons (fun vs w1 hb hd => ?_) ?_; (focus (simp only [DepI, Region.binds, SlI, List.getD_cons_zero, List.getD_cons_succ, Sl.val, and_true] at hd; go_simp; exact gives_pure rfl))
        exact askI_nil
      case hend =>
        intro vs w1 hb hd
        simp only [AllI, SlI, List.getD_cons_zero, List.getD_cons_succ, Sl.val, and_true, Nat.reduceAdd] at hd
        have hlast := hd.2.2.2.2.2.2.2.2.2
        clear hd
        have hb' := hb0.trans (hb.mono hb0.size)
        clear hb hb0
        go_wp2_with fail
        go_roundw
        case rel => exact ⟨k + 1, by go_num, by omega, hb'⟩
        case measure => simp [intOf]; omega
    · obtain rfl : k = n := by omega
      clear hlt
      go_wp2_with fail
      go_ret
      exact ⟨rfl, hb0⟩
end Go.Proofs.Ytaaibgbblehngaa
