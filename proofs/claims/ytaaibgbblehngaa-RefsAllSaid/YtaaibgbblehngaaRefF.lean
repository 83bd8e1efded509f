/- The walks of refs.Freed and of the laws' helpers few and short (chapter 06). -/
import Derived.Test.YtaaibgbblehngaaRefE
namespace Go.Proofs.Ytaaibgbblehngaa
open Go.RowKit

def frd (L : List Snp) (id : Int) : List Int := whr (fun c => decide (0 < cnt L c) && cnt (wo L id) c == 0) 65
theorem frd_le (L : List Snp) (id : Int) : (frd L id).length ≤ 65 := whr_le _ _

set_option maxHeartbeats 800000 in
theorem freed_any (A : Option Addr) (L : List Snp) (n c : Nat) (id : Int) (w : World) (hn : L.length = n) (hf : Hid (Few L)) (hA : Sn w w.heap.size A L) :
    Calls Try.prog 21 #[.slice A n c, .int .i64 id] w (IsRow w (frd L id)) := by
  have HN := Lib.hid hn
  clear hn
  have hz := zeroTab
  unfold TT at hz
  go_enter Try.func21, Try.ntmps21
  go_wp2_with fail
  refine (count_any A L n c _ HN.out hf hA).mono ?_
  rintro e w2 ⟨rfl, b2⟩
  have a2 := hA.step b2
  have hS1 := Lib.hid (tabV_size (cnt L))
  have hO1 := Lib.hid (tabV_all (cnt L))
  obtain ⟨T1, hT1⟩ : ∃ T1, tabV (cnt L) = T1 := ⟨_, rfl⟩
  have HT1 := Lib.hid hT1
  rw [hT1] at hS1 hO1 ⊢
  clear hT1
  go_wp2_with fail
  refine (without_any A L n c id _ HN.out hf a2).mono ?_
  rintro e w3 ⟨O, m, oc, rfl, o3, f3⟩
  have b3 := chain b2 f3
  have hm := Lib.hid o3.1
  have s3 := o3.sn
  clear o3 a2
  go_wp2_with fail
  refine (count_any O (wo L id) m oc _ hm.out (Lib.hid (hf.out.wo id)) s3).mono ?_
  rintro e w4 ⟨rfl, f4⟩
  have b4 := chain b3 f4
  have hS2 := Lib.hid (tabV_size (cnt (wo L id)))
  have hO2 := Lib.hid (tabV_all (cnt (wo L id)))
  obtain ⟨T2, hT2⟩ : ∃ T2, tabV (cnt (wo L id)) = T2 := ⟨_, rfl⟩
  have HT2 := Lib.hid hT2
  rw [hT2] at hS2 hO2 ⊢
  clear hT2 s3 f3 f4
  have hS0 := Lib.hid (tabV_size (fun _ => 0))
  obtain ⟨T0, hT0⟩ : ∃ T0, tabV (fun _ => 0) = T0 := ⟨_, rfl⟩
  rw [hT0] at hz hS0
  clear hT0
  have k5 := (Blk.new w4 TT T0).alloc (.cells T0 TT)
  have k6 := Blk.new (w4.alloc (.cells T0 TT)) TT T0
  rw [World.size_alloc] at k6
  have b5 := (b4.alloc b4.size (.cells T0 TT)).alloc (by have := b4.size; simp; omega) (.cells T0 TT)
  unfold TT at k5 k6 b5
  have K5 := Lib.hid k5
  have K6 := Lib.hid (show ((((w4.alloc (.cells T0 58)).alloc (.cells T0 58)).setRow w4.heap.size T1).heap[w4.heap.size + 1]? = some (.cells T0 TT (0, 0))) from (setRow_other _ _ _ _ (by omega)).trans k6)
  have hsz := b4.size
  clear k5 k6
  go_wp2_with (first
    | (refine wpList_store_row rfl TT (.tmp 5) (.tmp 8) rfl w4.heap.size T1 rfl rfl TT T0 K5.out (infoTab.trans (by rw [hS1.out])) (by rw [hS0.out, hS1.out]) hO1.out ?_)
    | (refine wpList_store_row rfl TT (.tmp 6) (.tmp 12) rfl (w4.heap.size + 1) T2 rfl rfl TT T0 K6.out (infoTab.trans (by rw [hS2.out])) (by rw [hS0.out, hS2.out]) hO2.out ?_))
  have k5 : Blk ((((w4.alloc (.cells T0 58)).alloc (.cells T0 58)).setRow w4.heap.size T1).setRow (w4.heap.size + 1) T2) w4.heap.size 58 (tabV (cnt L)) := by
    rw [HT1.out]
    exact (setRow_other _ _ _ _ (by omega)).trans (setRow_heap _ _ _ _ _ _ K5.out)
  have k6 : Blk ((((w4.alloc (.cells T0 58)).alloc (.cells T0 58)).setRow w4.heap.size T1).setRow (w4.heap.size + 1) T2) (w4.heap.size + 1) 58 (tabV (cnt (wo L id))) := by
    rw [HT2.out]
    exact setRow_heap _ _ _ _ _ _ K6.out
  have b6 : Below w.heap.size w ((((w4.alloc (.cells T0 58)).alloc (.cells T0 58)).setRow w4.heap.size T1).setRow (w4.heap.size + 1) T2) :=
    ⟨b5.os, b5.tape, b5.output, by simp; omega, fun k hk => ((setRow_other _ _ _ _ (by omega)).trans (setRow_other _ _ _ _ (by omega))).trans (b5.block k hk)⟩
  generalize (((w4.alloc (.cells T0 58)).alloc (.cells T0 58)).setRow w4.heap.size T1).setRow (w4.heap.size + 1) T2 = w6 at *
  clear K5 K6 b5 hz
  refine (whereF_any w4.heap.size (w4.heap.size + 1) 58 (cnt L) (cnt (wo L id)) _ _ (Lib.hid fun c => rfl) k5 k6).mono ?_
  rintro e w7 ⟨A7, n7, c7, rfl, o7, f7⟩
  have b7 := chain b6 f7
  have o8 := o7.mono b6.size
  clear k5 k6 o7 f7
  go_wp2_with fail
  go_ret
  exact ⟨A7, n7, c7, rfl, o8, b7⟩

/-- At most 20 snapshots, of 12 chunks each. -/
def cut12 (x : Snp) : Snp := { x with chunks := x.chunks.take 12 }
def fw (L : List Snp) : List Snp := (L.take 20).map cut12
theorem fw_few (L : List Snp) : Few (fw L) ∧ (fw L).length ≤ 20 ∧ ∀ x ∈ fw L, x.chunks.length ≤ 12 := by
  have h1 : (fw L).length ≤ 20 := by unfold fw; rw [List.length_map, List.length_take]; omega
  have h2 : ∀ x ∈ fw L, x.chunks.length ≤ 12 := by
    intro x hx
    obtain ⟨y, _, rfl⟩ := List.mem_map.1 hx
    simp only [cut12, List.length_take]
    omega
  exact ⟨⟨by omega, fun x hx => by have := h2 x hx; omega⟩, h1, h2⟩
theorem fw_take (L : List Snp) (k : Nat) {x : Snp} (h : L[k]? = some x) : (L.take (k + 1)).map cut12 = (L.take k).map cut12 ++ [cut12 x] := by
  obtain ⟨hk, rfl⟩ := List.getElem?_eq_some_iff.1 h
  rw [List.take_succ_eq_append_getElem hk, List.map_append]
  rfl

set_option maxRecDepth 10000 in
set_option maxHeartbeats 1600000 in
theorem few_any (A : Option Addr) (L : List Snp) (n c : Nat) (w : World) (hn : L.length = n) (hm : n ≤ 9223372036854775807) (hA : Sn w w.heap.size A L) :
    Calls Try.prog 19 #[.slice A n c] w (IsSnaps w w.heap.size (fw L)) := by
  have HN := Lib.hid hn
  clear hn
  go_enter Try.func19, Try.ntmps19
  go_wp2_with fail
  go_loopw [3, 4] (fun l i wr => ∃ (k : Nat) (O : Option Addr) (oc : Nat), i = .int .i64 k ∧ k ≤ n ∧ k ≤ 20 ∧ l = .slice O k oc ∧ OwnS wr w.heap.size w.heap.size O k oc ((L.take k).map cut12) ∧ Below w.heap.size w wr) (fun _ i _ => 20 - (intOf i).toNat)
  case atStart => exact ⟨0, some ⟨w.heap.size, 0, none⟩, 0, rfl, by omega, by omega, rfl, OwnS.empty (Nat.le_refl _), (Below.refl _ _).alloc (Nat.le_refl _) _⟩
  case round =>
    obtain ⟨k, O, oc, rfl, hk, hk20, rfl, ho, hb⟩ := hrel
    by_cases hlt : k < n
    · by_cases h20 : k < 20
      · have hx : L[k]? = some (L[k]'(by rw [HN.out]; exact hlt)) := List.getElem?_eq_getElem _
        obtain ⟨b, off, Ac, cc, rfl, hbB, c0, c1, c2, c3, c4, hcc, hcm, hi⟩ := (hA.below hb).at_ hx
        have HTK := Lib.hid (fw_take L k hx)
        clear hx
        generalize L[k]'(by rw [HN.out]; exact hlt) = x at *
        by_cases h12 : 12 < x.chunks.length
        · have hl12 := Lib.hid (show (cut12 x).chunks.length = 12 by unfold cut12; simp only; rw [List.length_take]; omega)
          have bx := (Below.refl wr.heap.size wr).alloc (Nat.le_refl _) (.cells #[.int .i64 x.id, .int .i64 x.set, .slice Ac 12 cc, .bool x.held, .string x.tag] TS)
          have hbx := hb.alloc hb.size (.cells #[.int .i64 x.id, .int .i64 x.set, .slice Ac 12 cc, .bool x.held, .string x.tag] TS)
          have hox := ho.step bx
          have hzx := hbx.size
          have hix : Is wr w.heap.size Ac (x.chunks.take 12) := by
            have := hi.take 12
            rw [← List.map_take] at this
            exact this
          have hed : Ed (wr.alloc (.cells #[.int .i64 x.id, .int .i64 x.set, .slice Ac 12 cc, .bool x.held, .string x.tag] TS)) w.heap.size TI Ac ((cut12 x).chunks.map iv) := Ed.of_rd (hix.below (bx.mono hb.size)) hzx
          have hmc : 12 ≤ cc := by omega
          clear ho hi hix bx
          unfold TS at hox hed hbx hzx
          go_wp2_with (at_builtin; refine appSnap rfl (.tmp 29) (.tmp 31) rfl (cut12 x) rfl hox rfl (by simp) rfl rfl hl12.out rfl rfl hmc hcm hed (by omega) hzx (Nat.le_refl _) ?_; intro A5 c5 w5 o5 g5; have b5 : Below w.heap.size w w5 := OwnS.below (hox.step ((Below.refl _ _).alloc (Nat.le_refl _) _)) (hbx.alloc hzx _) g5)
          go_roundw
          case rel => exact ⟨k + 1, A5, c5, by go_num, by omega, by omega, rfl, by rw [HTK.out]; exact o5, b5⟩
          case measure => simp [intOf]; omega
        · have hl12 := Lib.hid (show (cut12 x).chunks.length = x.chunks.length by unfold cut12; simp only; rw [List.length_take]; omega)
          have bx := (Below.refl wr.heap.size wr).alloc (Nat.le_refl _) (.cells #[.int .i64 x.id, .int .i64 x.set, .slice Ac x.chunks.length cc, .bool x.held, .string x.tag] TS)
          have hbx := hb.alloc hb.size (.cells #[.int .i64 x.id, .int .i64 x.set, .slice Ac x.chunks.length cc, .bool x.held, .string x.tag] TS)
          have hox := ho.step bx
          have hzx := hbx.size
          have hix : Is wr w.heap.size Ac (x.chunks.take 12) := by
            have := hi.take 12
            rw [← List.map_take] at this
            exact this
          have hed : Ed (wr.alloc (.cells #[.int .i64 x.id, .int .i64 x.set, .slice Ac x.chunks.length cc, .bool x.held, .string x.tag] TS)) w.heap.size TI Ac ((cut12 x).chunks.map iv) := Ed.of_rd (hix.below (bx.mono hb.size)) hzx
          have hmc : x.chunks.length ≤ cc := by omega
          clear ho hi hix bx
          unfold TS at hox hed hbx hzx
          go_wp2_with (at_builtin; refine appSnap rfl (.tmp 29) (.tmp 31) rfl (cut12 x) rfl hox rfl (by simp) rfl rfl hl12.out rfl rfl hmc hcm hed (by omega) hzx (Nat.le_refl _) ?_; intro A5 c5 w5 o5 g5; have b5 : Below w.heap.size w w5 := OwnS.below (hox.step ((Below.refl _ _).alloc (Nat.le_refl _) _)) (hbx.alloc hzx _) g5)
          go_roundw
          case rel => exact ⟨k + 1, A5, c5, by go_num, by omega, by omega, rfl, by rw [HTK.out]; exact o5, b5⟩
          case measure => simp [intOf]; omega
      · obtain rfl : k = 20 := by omega
        have e20 : ((20 : Nat) : Int) = 20 := rfl
        rw [e20]
        clear e20
        go_wp2_with fail
        go_ret
        exact ⟨O, 20, oc, rfl, ho, hb⟩
    · obtain rfl : k = n := by omega
      have hall : L.take k = L.take 20 := by rw [List.take_of_length_le (by rw [HN.out]; omega), List.take_of_length_le (by rw [HN.out]; omega)]
      rw [hall] at ho
      clear hall hlt
      go_wp2_with fail
      go_ret
      exact ⟨O, k, oc, rfl, ho, hb⟩

theorem short06_any (A : Option Addr) (l : List Int) (n cap : Nat) (w : World) (hn : l.length = n) (hcap : n ≤ cap) (hm : cap ≤ 9223372036854775807) :
    Calls Try.prog 30 #[.slice A n cap] w fun e w' => e = .returned (.slice A (l.take 12).length cap) ∧ w = w' := by
  by_cases h : 12 < n
  · have e : (l.take 12).length = 12 := by simp; omega
    rw [e]
    clear hn e
    go_enter Try.func30, Try.ntmps30
    go_wp2
    go_ret
    exact ⟨rfl, rfl⟩
  · have e : (l.take 12).length = n := by simp; omega
    rw [e]
    clear hn e
    go_enter Try.func30, Try.ntmps30
    go_wp2
    go_ret
    exact ⟨rfl, rfl⟩
end Go.Proofs.Ytaaibgbblehngaa
