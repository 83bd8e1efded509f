/- The walks of refs.used, Distinct, Counts, With, of slices.Clone at ints. -/
import Derived.Test.YtaaibgbblehngaaRefC
namespace Go.Proofs.Ytaaibgbblehngaa
open Go.RowKit

/-- A slice is handed back that reads as l. -/
def IsRd (w : World) (l : List Int) (e : Ending) (w' : World) : Prop := ∃ A n c, e = .returned (.slice A n c) ∧ l.length = n ∧ n ≤ c ∧ c ≤ maxLen ∧ Is w' w'.heap.size A l ∧ Below w.heap.size w w'
theorem IsRow.rd {w w' : World} {l : List Int} {e : Ending} (h : IsRow w l e w') : IsRd w l e w' := by
  obtain ⟨A, n, c, he, ho, hb⟩ := h
  exact ⟨A, n, c, he, IsRow.len ho, ho.cap.1, ho.cap.2, ho.rd, hb⟩

/-- The chunks that have a count. -/
def usd (f : Nat → Nat) : List Int := whr (fun c => decide (0 < f c)) 65
def dst (L : List Snp) : Nat := (usd (cnt L)).length
theorem usd_le (f : Nat → Nat) : (usd f).length ≤ 65 := whr_le _ _

theorem used_any (f : Nat → Nat) (w : World) : Calls Try.prog 39 #[.agg (tabV f)] w (IsRow w (usd f)) := by
  have hB := Blk.new w TT (tabV f)
  have b0 := (Below.refl w.heap.size w).alloc (Nat.le_refl _) (.cells (tabV f) TT)
  unfold TT at hB b0
  have hS := Lib.hid (tabV_size f)
  obtain ⟨T, hT⟩ : ∃ T, tabV f = T := ⟨_, rfl⟩
  have HT := Lib.hid hT
  rw [hT] at hB b0 ⊢
  clear hT
  go_enter Try.func39, Try.ntmps39
  go_wp2_with fail
  refine (whereU_any w.heap.size 58 f _ _ (Lib.hid fun c => rfl) (by rw [HT.out]; exact hB)).mono ?_
  rintro e w2 ⟨A, n, c, rfl, ho, hb⟩
  have hl := Lib.hid ho
  go_wp2_with fail
  go_ret
  exact ⟨A, n, c, rfl, (show Ov w2 w.heap.size TI 1 A n c _ from ho.mono (by simp)), b0.trans (hb.mono b0.size)⟩

set_option maxHeartbeats 400000 in
theorem distinct_any (A : Option Addr) (L : List Snp) (n c : Nat) (w : World) (hn : L.length = n) (hf : Hid (Few L)) (hA : Sn w w.heap.size A L) :
    Calls Try.prog 20 #[.slice A n c] w fun e w' => e = .returned (.int .i64 (dst L : Nat)) ∧ Below w.heap.size w w' := by
  have HN := Lib.hid hn
  clear hn
  go_enter Try.func20, Try.ntmps20
  go_wp2_with fail
  refine (count_any A L n c _ HN.out hf hA).mono ?_
  rintro e w2 ⟨rfl, hb⟩
  go_wp2_with fail
  refine (used_any (cnt L) _).mono ?_
  rintro e w3 ⟨A2, n2, c2, rfl, ho, hb3⟩
  have hl := Lib.hid (IsRow.len ho)
  have b3 := chain hb hb3
  clear ho hb hb3
  go_wp2_with fail
  go_ret
  exact ⟨by unfold dst; rw [hl.out]; rfl, b3⟩

theorem rd_tab {w : World} {g : Nat} {tt : TypeId} {f : Nat → Nat} (h : Blk w g tt (tabV f)) : Is w w.heap.size (some ⟨g, 0, none⟩) ((List.range 65).map (fun c => ((f c : Nat) : Int))) := by
  have := Rd.of_blk h
  unfold tabV at this
  rw [Is, List.map_map]
  exact this

def cnts (L : List Snp) : List Int := (List.range 65).map (fun c => ((cnt L c : Nat) : Int))
theorem cnts_length (L : List Snp) : (cnts L).length = 65 := by simp [cnts]
theorem cnts_at (L : List Snp) (c : Nat) (h : c < 65) : (cnts L).getD c 0 = ((cnt L c : Nat) : Int) := by simp [cnts, h]

set_option maxHeartbeats 400000 in
theorem counts_any (A : Option Addr) (L : List Snp) (n c : Nat) (w : World) (hn : L.length = n) (hf : Hid (Few L)) (hA : Sn w w.heap.size A L) :
    Calls Try.prog 29 #[.slice A n c] w (IsRd w (cnts L)) := by
  have HN := Lib.hid hn
  clear hn
  have hz := zeroTab
  unfold TT at hz
  go_enter Try.func29, Try.ntmps29
  go_wp2_with fail
  refine (count_any A L n c _ HN.out hf hA).mono ?_
  rintro e w2 ⟨rfl, hb⟩
  have b3 := hb.alloc hb.size (.cells (tabV (cnt L)) TT)
  have r3 := rd_tab (Blk.new w2 TT (tabV (cnt L)))
  have hS := Lib.hid (tabV_size (cnt L))
  have hS0 := Lib.hid (tabV_size (fun _ => 0))
  have hO := Lib.hid (tabV_all (cnt L))
  have hst := run_storeCells_new (P := Try.prog) w2 TT (tabV (fun _ => 0)) (tabV (cnt L)) (infoTab.trans (by rw [hS.out])) (by rw [hS.out, hS0.out]) hO.out
  unfold TT at r3 b3 hst
  generalize tabV (cnt L) = T3 at *
  generalize tabV (fun _ => 0) = T0 at *
  go_wp2_with fail
  go_ret
  exact ⟨some ⟨w2.heap.size, 0, none⟩, 65, 65, rfl, cnts_length L, Nat.le_refl _, by decide, r3, b3⟩

set_option maxHeartbeats 400000 in
theorem with_any (A : Option Addr) (L : List Snp) (n c : Nat) (Ac : Option Addr) (l : List Int) (m cc : Nat) (w : World) (hn : L.length = n) (hf : Hid (Few L)) (hA : Sn w w.heap.size A L) (hm : l.length = m) (hmb : m ≤ 1000) (hl : Is w w.heap.size Ac l) :
    Calls Try.prog 37 #[.slice A n c, .slice Ac m cc] w fun e w' => e = .returned (.int .i64 ((usd (fun c => cnt L c + occ l c)).length : Nat)) ∧ Below w.heap.size w w' := by
  have HN := Lib.hid hn
  have HM := Lib.hid hm
  clear hn hm
  have hz := zeroTab
  unfold TT at hz
  go_enter Try.func37, Try.ntmps37
  go_wp2_with fail
  refine (count_any A L n c _ HN.out hf hA).mono ?_
  rintro e w2 ⟨rfl, hb⟩
  have b3 := hb.alloc hb.size (.cells (tabV (cnt L)) TT)
  have hB := Blk.new w2 TT (tabV (cnt L))
  have hS := Lib.hid (tabV_size (cnt L))
  have hS0 := Lib.hid (tabV_size (fun _ => 0))
  have hO := Lib.hid (tabV_all (cnt L))
  have hst := run_storeCells_new (P := Try.prog) w2 TT (tabV (fun _ => 0)) (tabV (cnt L)) (infoTab.trans (by rw [hS.out])) (by rw [hS.out, hS0.out]) hO.out
  have hl3 : Is (w2.alloc (.cells (tabV (cnt L)) TT)) w2.heap.size Ac l := (hl.step hb).below ((Below.refl _ _).alloc (Nat.le_refl _) _)
  unfold TT at hl3 b3 hst hB
  obtain ⟨T3, hT3⟩ : ∃ T3, tabV (cnt L) = T3 := ⟨_, rfl⟩
  have HT := Lib.hid hT3
  rw [hT3] at hB hl3 b3 hst hS hO ⊢
  clear hT3
  generalize tabV (fun _ => 0) = T0 at *
  go_wp2_with fail
  refine (add_any w2.heap.size 58 (cnt L) Ac l m cc _ HM.out (Lib.hid fun c => by have h1 := hf.out.cnt c; have := HM.out; omega) (by rw [HT.out]; exact hB) hl3).mono ?_
  rintro e w4 ⟨rfl, hn4, hg4⟩
  have b4 := b3.grown hg4 b3.size (by intro g hg; injection hg with hg; have := hb.size; omega)
  have HS4 := Lib.hid (tabV_size (fun c => cnt L c + occ l c))
  obtain ⟨T4, hT4⟩ : ∃ T4, tabV (fun c => cnt L c + occ l c) = T4 := ⟨_, rfl⟩
  have HT4 := Lib.hid hT4
  rw [hT4] at HS4 hn4
  clear hT4
  unfold Blk at hn4
  have H4 := Lib.hid hn4
  clear hn4 hg4 hl3 hst hz hB
  go_wp2_with (refine wpList_load_row rfl TT (.tmp 5) rfl w2.heap.size rfl TT T4 (0, 0) _ H4.out Try.underlying58 rfl (infoTab.trans (by rw [HS4.out])) ?_)
  rw [← HT4.out]
  refine (used_any (fun c => cnt L c + occ l c) _).mono ?_
  rintro e w5 ⟨A2, n2, c2, rfl, ho, hb5⟩
  have hl := Lib.hid (IsRow.len ho)
  have b5 := chain b4 hb5
  clear ho hb5
  rw [HT4.out]
  go_wp2_with fail
  go_ret
  exact ⟨by rw [hl.out]; rfl, b5⟩

def ClonedI (w : World) (l : List Int) (n : Nat) (e : Ending) (w' : World) : Prop :=
  ∃ A c, e = .returned (.slice A n c) ∧ Ov w' w.heap.size TI 1 A n c (l.map iv) ∧ Below w.heap.size w w'

theorem cloneI_any (A : Option Addr) (l : List Int) (n c : Nat) (w : World) (hn : l.length = n) (hs : n ≤ 1000000) (hA : Is w w.heap.size A l) :
    Calls Try.prog 43 #[.slice A n c] w (ClonedI w l n) := by
  cases A with
  | none =>
    obtain rfl : l = [] := by
      rcases Nat.eq_zero_or_pos l.length with h0 | h0
      · exact List.eq_nil_of_length_eq_zero h0
      · obtain ⟨b, off, he, _⟩ := hA (by simpa using h0)
        cases he
    obtain rfl : n = 0 := hn.symm
    have hq := fun (w : World) => Lib.run_eql_slice_nil (P := Try.prog) w 39 3 none 0 c 0 0 Try.underlying39
    go_enter Try.func43, Try.ntmps43
    go_wp2_with fail
    go_ret
    exact ⟨none, 0, rfl, Ov.nil_ _ _ _ _, Below.refl _ _⟩
  | some a =>
    have HN := Lib.hid hn
    clear hn
    have b0 := (Below.refl w.heap.size w).alloc (Nat.le_refl _) (.cells #[] TI)
    have he := Ov.empty (w := w) (base := w.heap.size) (E := TI) (size := 1) (Nat.le_refl _)
    have s0 := hA.below b0
    have hq := fun (w : World) (c : Nat) => Lib.run_eql_slice_nil (P := Try.prog) w 39 3 (some a) n c 0 0 Try.underlying39
    obtain ⟨i, hi, hz, hsz, hby⟩ := info_parts infoI
    have HI := Lib.hid hi
    have HZ := Lib.hid hz
    have HSZ := Lib.hid hsz
    have HBY := Lib.hid hby
    clear hi hz hsz hby
    go_enter Try.func43, Try.ntmps43
    go_wp2_with (at_builtin; refine wpList_append_rd rfl (.tmp 5) (.tmp 6) _ rfl TI i (.int .i64 0) 1 8 Try.underlying39 HI.out HZ.out HSZ.out HBY.out rfl (by omega) rfl he rfl (by rw [List.length_map, HN.out, Nat.mul_one]) s0 (iv_one _) (by omega) (by omega) b0.size ?_; intro A1 c1 w1 o1 g1 _; simp only [Nat.zero_add, List.nil_append] at o1; have b1 : Below w.heap.size w w1 := Ov.below he b0 g1)
    go_ret
    exact ⟨A1, c1, rfl, o1, b1⟩
end Go.Proofs.Ytaaibgbblehngaa
