/- The walk of refs.count. -/
import Derived.Test.YtaaibgbblehngaaRefA
import Derived.Laws.Rows
import Derived.Deep.WholeRow
namespace Go.Proofs.Ytaaibgbblehngaa
open Go.RowKit

abbrev TT : TypeId := 58
theorem zeroTab (w : World) : (zeroValue TT).run Try.prog w = .ok (.agg (tabV fun _ => 0)) w := by kernel_rfl
theorem infoTab : (Try.prog.info? TT).map (·.size) = some 65 := by kernel_rfl

set_option maxRecDepth 10000 in
set_option maxHeartbeats 800000 in
theorem count_any (A : Option Addr) (L : List Snp) (n c : Nat) (w : World) (hn : L.length = n) (hf : Hid (Few L)) (hA : Sn w w.heap.size A L) :
    Calls Try.prog 40 #[.slice A n c] w fun e w' => e = .returned (.agg (tabV (cnt L))) ∧ Below w.heap.size w w' := by
  have HN := Lib.hid hn
  have hnb : n ≤ 100 := by have := hf.out.1; omega
  clear hn
  have hz := zeroTab
  unfold TT at hz
  go_enter Try.func40, Try.ntmps40
  go_wp2_with fail
  clear hz
  obtain ⟨T0, hT0⟩ : ∃ T0, tabV (fun _ => 0) = T0 := ⟨_, rfl⟩
  have hT1 := Lib.hid (show T0 = tabV (cnt (L.take 0)) by rw [← hT0]; rfl)
  rw [hT0]
  clear hT0
  have g2 := Blk.new w TT T0
  have g3 := Blk.new (w.alloc (.cells T0 TT)) TT T0
  have g2' := g2.alloc (.cells T0 TT)
  have hb0 := ((Below.refl w.heap.size w).alloc (Nat.le_refl _) (.cells T0 TT)).alloc (by simp) (.cells T0 TT)
  rw [World.size_alloc] at g3
  clear g2
  unfold TT at g3 g2' hb0
  generalize (w.alloc (.cells T0 58)).alloc (.cells T0 58) = w2 at *
  have hs2 : w.heap.size + 2 ≤ w2.heap.size := by have := g3.lt; omega
  go_loopw [8] (fun i wr => ∃ k : Nat, i = .int .i64 k ∧ k ≤ n ∧ Hid (Blk wr (w.heap.size + 1) TT (tabV (cnt (L.take k)))) ∧ Hid (Blk wr w.heap.size TT T0) ∧ Below w.heap.size w wr ∧ w.heap.size + 2 ≤ wr.heap.size) (fun i _ => n - (intOf i).toNat)
  case atStart => exact ⟨0, rfl, by omega, Lib.hid (by rw [hT1.out] at g3; exact g3), Lib.hid g2', hb0, hs2⟩
  case round =>
    clear g3 g2' hb0 hs2
    obtain ⟨k, rfl, hk, h3, h2, hb, hs⟩ := hrel
    by_cases hlt : k < n
    · have hx : L[k]? = some (L[k]'(by rw [HN.out]; exact hlt)) := List.getElem?_eq_getElem _
      obtain ⟨b, off, Ac, cc, rfl, hbB, c0, c1, c2, c3, c4, hcc, hcm, hi⟩ := (hA.below hb).at_ hx
      have htk := Lib.hid (fun c => cnt_take L k c hx)
      have hmem : L[k]'(by rw [HN.out]; exact hlt) ∈ L := List.getElem_mem _
      have hlen := hf.out.2 _ hmem
      have hcb := Lib.hid (fun c => show cnt (L.take k) c ≤ 10000 from (show Few (L.take k) from ⟨by rw [List.length_take, HN.out]; omega, fun x hx => hf.out.2 x (List.mem_of_mem_take hx)⟩).cnt c)
      clear hx hmem
      generalize L[k]'(by rw [HN.out]; exact hlt) = x at *
      go_wp2_with fail
      have hbw := (Below.refl wr.heap.size wr).alloc (Nat.le_refl _) (.cells #[.int .i64 x.id, .int .i64 x.set, .slice Ac x.chunks.length cc, .bool x.held, .string x.tag] 42)
      have hba := hb.alloc hb.size (.cells #[.int .i64 x.id, .int .i64 x.set, .slice Ac x.chunks.length cc, .bool x.held, .string x.tag] 42)
      refine (add_any (w.heap.size + 1) TT (cnt (L.take k)) Ac x.chunks _ cc _ rfl (Lib.hid fun c => by have := hcb.out c; omega) (h3.out.alloc _) ((hi.more (show w.heap.size ≤ w.heap.size + 1 by omega)).below (hbw.mono (by omega)))).mono ?_
      rintro e w3 ⟨rfl, hn3, hg3⟩
      have hb3 := hba.grown hg3 hba.size (by intro g hg; injection hg with hg; omega)
      have h2' := Lib.hid ((h2.out.alloc (.cells #[.int .i64 x.id, .int .i64 x.set, .slice Ac x.chunks.length cc, .bool x.held, .string x.tag] 42)).grown hg3 (by simp))
      have h3' := Lib.hid (show Blk w3 (w.heap.size + 1) TT (tabV (cnt (L.take (k + 1)))) by rw [tabV_congr (f := cnt (L.take (k + 1))) (g := fun c => cnt (L.take k) c + occ x.chunks c) (fun c _ => htk.out c)]; exact hn3)
      have hs3 : w.heap.size + 2 ≤ w3.heap.size := by have := hg3.size; simp at this; omega
      clear hn3 hg3 hba hbw hi
      go_wp2_with fail
      go_roundw
      case rel => exact ⟨k + 1, by go_num, by omega, h3', h2', hb3, hs3⟩
      case measure => simp [intOf]; omega
    · obtain rfl : k = n := by omega
      have hall : L.take k = L := List.take_of_length_le (by rw [HN.out]; omega)
      rw [hall] at h3
      clear hall hlt
      have hrow := h2.out
      have hcz : T0.size = 65 := by rw [hT1.out, tabV_size]
      have HC := Lib.hid hcz
      clear hcz
      obtain ⟨T3, hT3⟩ : ∃ T3, tabV (cnt L) = T3 := ⟨_, rfl⟩
      rw [hT3] at h3
      have HT3 := Lib.hid hT3
      have HS := Lib.hid (show T3.size = 65 by rw [← hT3, tabV_size])
      have H1 := Lib.hid (show T3.all (·.oneCell') = true by rw [← hT3]; exact tabV_all _)
      clear hT3 hrow
      have h3o := h3.out
      have h2o := h2.out
      unfold Blk at h3o h2o
      have H3 := Lib.hid h3o
      have H2 := Lib.hid h2o
      clear h3o h2o
      go_wp2_with (first
        | (refine wpList_load_row rfl TT (.tmp 3) rfl (w.heap.size + 1) rfl TT T3 (0, 0) _ H3.out Try.underlying58 rfl (infoTab.trans (by rw [HS.out])) ?_)
        | (refine wpList_store_row rfl TT (.tmp 2) (.tmp 16) rfl w.heap.size T3 rfl rfl TT T0 H2.out (infoTab.trans (by rw [HS.out])) (by rw [HC.out, HS.out]) H1.out ?_))
      refine bodyPost_ret (v := .agg T3) (results_cell_row (p := 2) (ty := TT) rfl _ _ w.heap.size TT T3 (0, 0) _ rfl (setRow_heap wr w.heap.size T0 T3 TT _ H2.out) Try.underlying58 rfl (infoTab.trans (by rw [HS.out]))) rfl ⟨by rw [HT3.out], ?_⟩
      exact ⟨hb.os, hb.tape, hb.output, by simp; exact hb.size, fun k hk => (setRow_other wr w.heap.size k T3 (by omega)).trans (hb.block k hk)⟩
end Go.Proofs.Ytaaibgbblehngaa
