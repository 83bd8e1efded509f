/- The walk of the law RefsBounds. -/
import Derived.Test.YtaaibgbblehngaaRefI
namespace Go.Proofs.Ytaaibgbblehngaa
open Go.RowKit

theorem cnt_at0 (L : List Snp) : cnt L 0 = 0 := by
  unfold cnt
  have : (L.map fun x => occ x.chunks 0) = L.map fun _ => 0 := List.map_congr_left fun x _ => by simp [occ]
  rw [this]
  induction L with
  | nil => rfl
  | cons a L ih => simpa using ih (List.map_congr_left fun x _ => by simp [occ])
theorem smf_succ (f : Nat → Nat) (k : Nat) (h : 1 ≤ k) : smf f (k + 1) = smf f k + f k := by
  show smf f k + (if 1 ≤ k then f k else 0) = _
  rw [if_pos h]
theorem smf_bd (f : Nat → Nat) (K : Nat) (h : ∀ c, f c ≤ K) (k : Nat) : smf f k ≤ K * k := by
  induction k with
  | zero => exact Nat.le_refl _
  | succ k ih =>
    have h1 := h k
    have h2 : K * (k + 1) = K * k + K := Nat.mul_succ K k
    simp only [smf]
    split <;> omega

set_option maxRecDepth 10000 in
set_option maxHeartbeats 3200000 in
theorem refsBounds_walk (w : World) (A : Option Addr) (l : List Snp) (n cap : Nat) (hn : l.length = n) (hcap : n ≤ cap) (hm : cap ≤ maxLen) (hA : Sn w w.heap.size A l) :
    Calls Try.prog 12 #[.slice A n cap] w fun e w' => e = .returned (.bool true) ∧ Below w.heap.size w w' := by
  unfold maxLen at hm
  have HN := Lib.hid hn
  clear hn
  obtain ⟨hfew, hlen20, _⟩ := fw_few l
  go_enter Try.func12, Try.ntmps12
  go_wp2_with fail
  refine (shown06_any _).mono ?_
  rintro e w1 ⟨rfl, b1⟩
  have a1 := hA.step b1
  clear hA
  go_wp2_with fail
  refine (few_any A l n cap _ HN.out (by omega) a1).mono ?_
  rintro e w2 ⟨O, m, oc, rfl, o2, f2⟩
  have b2 := chain b1 f2
  have s2 := o2.sn
  generalize fw l = M at *
  have HF := Lib.hid hfew
  have HM := Lib.hid o2.1
  have hm20 : m ≤ 20 := by have := HM.out; omega
  have hocap := o2.cap
  unfold maxLen at hocap
  obtain ⟨hoc1, hoc2⟩ := hocap
  clear a1 f2 hfew hlen20 o2 b1
  go_wp2_with fail
  go_loop [4, 5] (fun h i => ∃ k : Nat, i = .int .i64 k ∧ k ≤ m ∧ h = .int .i64 (hv (M.take k) : Nat)) (fun _ i => m - (intOf i).toNat)
  case atStart => exact ⟨0, rfl, by omega, rfl⟩
  case round =>
    obtain ⟨k, rfl, hk, rfl⟩ := hrel
    by_cases hlt : k < m
    · have hx : M[k]? = some (M[k]'(by rw [HM.out]; exact hlt)) := List.getElem?_eq_getElem _
      obtain ⟨b, off, Ac, cc, rfl, hbB, c0, c1, c2, c3, c4, hcc, hcm, hi⟩ := s2.at_ hx
      have HT := Lib.hid (hv_take M k hx)
      have hb1 := (HF.out.take k).hv
      have hxl : (M[k]'(by rw [HM.out]; exact hlt)).chunks.length ≤ 100 := HF.out.2 _ (List.getElem_mem _)
      clear hx c0 c1 c3 c4
      generalize M[k]'(by rw [HM.out]; exact hlt) = x at *
      generalize hv (M.take k) = h0 at *
      obtain ⟨cl, hcl⟩ : ∃ cl, x.chunks = cl := ⟨_, rfl⟩
      rw [hcl] at HT c2 hxl hcc hi
      clear hcl
      obtain ⟨cn, hcn⟩ : ∃ cn, cl.length = cn := ⟨_, rfl⟩
      have HCN := Lib.hid hcn
      rw [hcn] at c2 hxl hcc
      clear hcn
      unfold maxLen at hcm
      go_wp2_with fail
      go_loop [4, 6] (fun h j => ∃ t : Nat, j = .int .i64 t ∧ t ≤ cn ∧ h = .int .i64 ((h0 + hvl (cl.take t) : Nat) : Int)) (fun _ j => cn - (intOf j).toNat)
      case atStart => exact ⟨0, rfl, by omega, rfl⟩
      case round =>
        obtain ⟨t, rfl, ht, rfl⟩ := hrel
        by_cases hltt : t < cn
        · obtain ⟨bi, oi, rfl, _, hci⟩ := hi.at_ (k := t) (by rw [HCN.out]; exact hltt)
          have HS := Lib.hid (hvl_take cl t (by rw [HCN.out]; exact hltt))
          have hq := hvl_le (cl.take t)
          have hql : (cl.take t).length ≤ 100 := by rw [List.length_take]; omega
          have hq2 : hvl (cl.take t) ≤ 100 := by omega
          clear hq hql
          generalize cl.getD t 0 = y at *
          generalize hvl (cl.take t) = q at *
          by_cases h1 : 1 ≤ y
          · by_cases h2 : y ≤ 64
            · have HS2 := Lib.hid (show hvl (cl.take (t + 1)) = q + 1 by rw [HS.out, if_pos ⟨h1, h2⟩])
              go_wp2_with fail
              go_round
              case rel => exact ⟨t + 1, by go_num, by omega, by rw [HS2.out]; go_num⟩
              case measure => simp [intOf]; omega
            · have HS2 := Lib.hid (show hvl (cl.take (t + 1)) = q by rw [HS.out, if_neg (by omega)]; rfl)
              go_wp2_with fail
              go_round
              case rel => exact ⟨t + 1, by go_num, by omega, by rw [HS2.out]⟩
              case measure => simp [intOf]; omega
          · have HS2 := Lib.hid (show hvl (cl.take (t + 1)) = q by rw [HS.out, if_neg (by omega)]; rfl)
            go_wp2_with fail
            go_round
            case rel => exact ⟨t + 1, by go_num, by omega, by rw [HS2.out]⟩
            case measure => simp [intOf]; omega
        · obtain rfl : t = cn := by omega
          have hall : cl.take t = cl := List.take_of_length_le (by rw [HCN.out]; omega)
          rw [hall]
          clear hall hltt
          go_wp2_with fail
          go_round
          case rel => exact ⟨k + 1, by go_num, by omega, by rw [HT.out]⟩
          case measure => simp [intOf]; omega
    · obtain rfl : k = m := by omega
      have hall : M.take k = M := List.take_of_length_le (by rw [HM.out]; omega)
      rw [hall]
      have hhv := HF.out.hv
      have hsm := Lib.hid (smf_cnt M)
      have hdh := dst_hv M
      have hd64 := dst_64 M
      generalize hv M = H at *
      clear hall hlt
      go_wp2_with fail
      refine (counts_any O M k oc _ HM.out HF s2).mono ?_
      rintro e w3 ⟨CA, cn, cc, rfl, hcl, hcc, hcm, hci, f3⟩
      have b3 := chain b2 f3
      have s3 := s2.step f3
      rw [cnts_length] at hcl
      subst hcl
      unfold maxLen at hcm
      obtain ⟨g, off, rfl, hgB, hc0⟩ := hci.at_ (k := 0) (by rw [cnts_length]; omega)
      rw [cnts_at M 0 (by omega)] at hc0
      have hcells := Lib.hid (show ∀ c, c < 65 → w3.cell? ⟨g, off + c, none⟩ = some (.int .i64 ((cnt M c : Nat) : Int)) from fun c hc => by have := hci.at_ (k := c) (by rw [cnts_length]; exact hc); obtain ⟨b', o', he, _, h⟩ := this; injection he with he; injection he with e1 e2; subst e1 e2; rw [cnts_at M c hc] at h; exact h)
      have hz0 : ((cnt M 0 : Nat) : Int) = 0 := by rw [cnt_at0]; rfl
      rw [hz0] at hc0
      have hc0' : w3.cell? ⟨g, off, none⟩ = some (.int .i64 0) := hc0
      clear hz0 hc0 hci s2
      go_wp2_with fail
      go_loopw [8, 9, 10] (fun s f i wr => ∃ (t fn : Nat) (F : Option Addr) (fc : Nat), i = .int .i64 t ∧ 1 ≤ t ∧ t ≤ 65 ∧ s = .int .i64 (smf (cnt M) t : Nat) ∧ f = .slice F fn fc ∧ fn ≤ 5 ∧ Ov wr w3.heap.size TI 1 F fn fc ((unu M t).map iv) ∧ Below w3.heap.size w3 wr) (fun _ _ i _ => 65 - (intOf i).toNat)
      case atStart => exact ⟨1, 0, some ⟨w3.heap.size, 0, none⟩, 0, rfl, by omega, by omega, rfl, rfl, by omega, by rw [unu_one]; exact Ov.empty (Nat.le_refl _), (Below.refl _ _).alloc (Nat.le_refl _) _⟩
      case round =>
        obtain ⟨t, fn, F, fc, rfl, ht1, ht, rfl, rfl, hfn, ho, hb⟩ := hrel
        by_cases hlt : t < 65
        · have hct := (hb.cell (p := ⟨g, off + t, none⟩) hgB).trans (hcells.out t hlt)
          have hcb := HF.out.cnt t
          have hsb := smf_bd (cnt M) 10000 (fun c => HF.out.cnt c) t
          have HS := Lib.hid (show smf (cnt M) (t + 1) = smf (cnt M) t + cnt M t from smf_succ _ _ ht1)
          have HU := Lib.hid (unu_succ M t ht1)
          have HL := Lib.hid (show (unu M t).length = fn from by have := ho.len; simpa using this)
          have hsb2 : smf (cnt M) t ≤ 1000000 := by omega
          clear hsb
          generalize smf (cnt M) t = s at *
          generalize cnt M t = ct at *
          by_cases hz : ct = 0
          · subst hz
            by_cases h5 : fn < 5
            · have HU2 := Lib.hid (show unu M (t + 1) = unu M t ++ [((t : Nat) : Int)] by rw [HU.out, HL.out]; exact if_pos ⟨rfl, h5⟩)
              go_wp2_with (at_builtin; refine appI rfl (.tmp 87) (.tmp 89) rfl rfl ho rfl (by omega) hb.size ?_; intro F3 c3 w5 o5 g5; have b5 : Below w3.heap.size w3 w5 := Ov.below (ho.alloc _) (hb.alloc hb.size _) g5)
              go_roundw
              case rel => exact ⟨t + 1, fn + 1, F3, c3, by go_num, by omega, by omega, by rw [HS.out]; go_num, rfl, by omega, by rw [HU2.out]; exact o5, b5⟩
              case measure => simp [intOf]; omega
            · have HU2 := Lib.hid (show unu M (t + 1) = unu M t by rw [HU.out, HL.out, if_neg (by omega)])
              go_wp2_with fail
              go_roundw
              case rel => exact ⟨t + 1, fn, F, fc, by go_num, by omega, by omega, by rw [HS.out]; go_num, rfl, by omega, by rw [HU2.out]; exact ho, hb⟩
              case measure => simp [intOf]; omega
          · have HU2 := Lib.hid (show unu M (t + 1) = unu M t by rw [HU.out, if_neg (by omega)])
            have hzb : (((ct : Nat) : Int) == 0) = false := by rw [beq_eq_false_iff_ne]; omega
            clear hz
            go_wp2_with fail
            go_roundw
            case rel => exact ⟨t + 1, fn, F, fc, by go_num, by omega, by omega, by rw [HS.out]; go_num, rfl, by omega, by rw [HU2.out]; exact ho, hb⟩
            case measure => simp [intOf]; omega
        · obtain rfl : t = 65 := by omega
          rw [hsm.out]
          have HL := Lib.hid (show (unu M 65).length = fn from by have := ho.len; simpa using this)
          have HW := Lib.hid (show (usd (fun c => cnt M c + occ (unu M 65) c)).length = dst M + fn by rw [unu_usd, HL.out])
          have b4 := chain b3 hb
          have s4 := s3.step hb
          have e65 : ((65 : Nat) : Int) = 65 := rfl
          rw [e65]
          clear e65 hlt
          go_wp2_with fail
          refine (distinct_any O M k oc _ HM.out HF s4).mono ?_
          rintro e w5 ⟨rfl, f5⟩
          have o5 := ho.step f5
          have s5 := s4.step f5
          have b5 := chain b4 f5
          clear ho s4 f5
          go_wp2_with fail
          refine (with_any O M k oc F (unu M 65) fn fc _ HM.out HF s5 HL.out (by omega) o5.rd).mono ?_
          rintro e w6 ⟨rfl, f6⟩
          rw [HW.out]
          have b6 := chain b5 f6
          clear o5 s5 f6
          go_wp2_with fail
          go_ret
          exact ⟨by simp, b6⟩
end Go.Proofs.Ytaaibgbblehngaa
