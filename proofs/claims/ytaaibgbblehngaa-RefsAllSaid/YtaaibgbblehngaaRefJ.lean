/- The walks of the reference's Count, Counts, Distinct, With (chapter 06). -/
import Derived.Test.YtaaibgbblehngaaRefI
namespace Go.Proofs.Ytaaibgbblehngaa
open Go.RowKit

theorem cnt_zero (L : List Snp) : cnt L 0 = 0 := by
  unfold cnt
  have : (L.map fun x => occ x.chunks 0) = L.map fun _ => 0 := List.map_congr_left fun x _ => by simp [occ]
  rw [this]
  induction L with
  | nil => rfl
  | cons a L ih => simpa using ih (List.map_congr_left fun x _ => by simp [occ])

set_option maxRecDepth 10000 in
set_option maxHeartbeats 1600000 in
theorem rcount_any (A : Option Addr) (L : List Snp) (n cap : Nat) (c : Nat) (w : World) (hn : L.length = n) (hf : Hid (Few L)) (hc : 1 ≤ c) (hA : Sn w w.heap.size A L) :
    Calls Try.prog 44 #[.slice A n cap, .int .i64 c] w fun e w' => e = .returned (.int .i64 (cnt L c : Nat)) ∧ w = w' := by
  have HN := Lib.hid hn
  have hnb : n ≤ 100 := by have := hf.out.1; omega
  clear hn
  go_enter Try.func44, Try.ntmps44
  go_wp2_with fail
  go_loop [5, 6] (fun h i => ∃ k : Nat, i = .int .i64 k ∧ k ≤ n ∧ h = .int .i64 (cnt (L.take k) c : Nat)) (fun _ i => n - (intOf i).toNat)
  case atStart => exact ⟨0, rfl, by omega, rfl⟩
  case round =>
    obtain ⟨k, rfl, hk, rfl⟩ := hrel
    by_cases hlt : k < n
    · have hx : L[k]? = some (L[k]'(by rw [HN.out]; exact hlt)) := List.getElem?_eq_getElem _
      obtain ⟨b, off, Ac, cc, rfl, hbB, c0, c1, c2, c3, c4, hcc, hcm, hi⟩ := hA.at_ hx
      have HT := Lib.hid (cnt_take L k c hx)
      have hb1 : cnt (L.take k) c ≤ 10000 := (show Few (L.take k) from ⟨by rw [List.length_take, HN.out]; omega, fun x hx => hf.out.2 x (List.mem_of_mem_take hx)⟩).cnt c
      have hxl : (L[k]'(by rw [HN.out]; exact hlt)).chunks.length ≤ 100 := hf.out.2 _ (List.getElem_mem _)
      clear hx c0 c1 c3 c4
      generalize L[k]'(by rw [HN.out]; exact hlt) = x at *
      generalize cnt (L.take k) c = h0 at *
      obtain ⟨cl, hcl⟩ : ∃ cl, x.chunks = cl := ⟨_, rfl⟩
      rw [hcl] at HT c2 hxl hcc hi
      clear hcl
      obtain ⟨cn, hcn⟩ : ∃ cn, cl.length = cn := ⟨_, rfl⟩
      have HCN := Lib.hid hcn
      rw [hcn] at c2 hxl hcc
      clear hcn
      unfold maxLen at hcm
      go_wp2_with fail
      go_loop [5, 7] (fun h j => ∃ t : Nat, j = .int .i64 t ∧ t ≤ cn ∧ h = .int .i64 ((h0 + occ (cl.take t) c : Nat) : Int)) (fun _ j => cn - (intOf j).toNat)
      case atStart => exact ⟨0, rfl, by omega, by simp [occ_nil]⟩
      case round =>
        obtain ⟨t, rfl, ht, rfl⟩ := hrel
        by_cases hltt : t < cn
        · obtain ⟨bi, oi, rfl, _, hci⟩ := hi.at_ (k := t) (by rw [HCN.out]; exact hltt)
          have HS := Lib.hid (occ_take cl t c (by rw [HCN.out]; exact hltt))
          have hq := occ_le (cl.take t) c
          have hql : (cl.take t).length ≤ 100 := by rw [List.length_take]; omega
          have hq2 : occ (cl.take t) c ≤ 100 := by omega
          clear hq hql
          generalize cl.getD t 0 = y at *
          generalize occ (cl.take t) c = q at *
          by_cases h1 : y = (c : Int)
          · have HS2 := Lib.hid (show occ (cl.take (t + 1)) c = q + 1 by rw [HS.out, if_pos ⟨h1, by omega⟩])
            have hyb : (y == (c : Int)) = true := by rw [beq_iff_eq]; exact h1
            clear h1
            go_wp2_with fail
            go_round
            case rel => exact ⟨t + 1, by go_num, by omega, by rw [HS2.out]; go_num⟩
            case measure => simp [intOf]; omega
          · have HS2 := Lib.hid (show occ (cl.take (t + 1)) c = q by rw [HS.out, if_neg (by omega)]; rfl)
            have hyb : (y == (c : Int)) = false := by rw [beq_eq_false_iff_ne]; exact h1
            clear h1
            go_wp2_with fail
            go_round
            case rel => exact ⟨t + 1, by go_num, by omega, by rw [HS2.out]⟩
            case measure => simp [intOf]; omega
        · obtain rfl : t = cn := by omega
          have hall : cl.take t = cl := List.take_of_length_le (by rw [HCN.out]; omega)
          rw [hall]
          clear hall hltt
          go_wp2_with fail
          go_round
          case rel => exact ⟨k + 1, by go_num, by omega, by rw [HT.out]⟩
          case measure => simp [intOf]; omega
    · obtain rfl : k = n := by omega
      have hall : L.take k = L := List.take_of_length_le (by rw [HN.out]; omega)
      rw [hall]
      clear hall hlt
      go_wp2_with fail
      go_ret
      exact ⟨rfl, rfl⟩

theorem Ov.lit {w : World} {base n : Nat} {E : TypeId} {C : Array Value} {vs : List Value} (hn : vs.length = n) (hC : C.toList = vs) (hb : base ≤ w.heap.size) (hm : n ≤ 1000000) : Ov (w.alloc (.cells C E)) base E 1 (some ⟨w.heap.size, 0, none⟩) n n vs :=
  ⟨by rw [hn, Nat.mul_one], .inr ⟨w.heap.size, n, C, rfl, hb, heap_alloc_new w _, Nat.le_refl _, by unfold maxLen; omega, by rw [Nat.mul_one, ← hn, ← hC]; simp, by rw [Nat.mul_one, hC, ← hn, List.take_length]⟩⟩

theorem cnts_take_succ (L : List Snp) (k : Nat) (h : k < 65) : (cnts L).take (k + 1) = (cnts L).take k ++ [((cnt L k : Nat) : Int)] := by
  rw [List.take_succ_eq_append_getElem (by rw [cnts_length]; exact h)]
  simp [cnts]

set_option maxRecDepth 10000 in
set_option maxHeartbeats 800000 in
theorem rcounts_any (A : Option Addr) (L : List Snp) (n cap : Nat) (w : World) (hn : L.length = n) (hf : Hid (Few L)) (hA : Sn w w.heap.size A L) :
    Calls Try.prog 32 #[.slice A n cap] w (IsRow w (cnts L)) := by
  have HN := Lib.hid hn
  clear hn
  have h0 := Lib.hid (show (cnts L).take 1 = [0] by rw [cnts_take_succ L 0 (by omega), cnt_zero]; rfl)
  go_enter Try.func32, Try.ntmps32
  go_wp2_with fail
  go_loopw [3, 4] (fun l i wr => ∃ (k : Nat) (P : Option Addr) (q : Nat), i = .int .i64 k ∧ 1 ≤ k ∧ k ≤ 65 ∧ l = .slice P k q ∧ Ov wr w.heap.size TI 1 P k q (((cnts L).take k).map iv) ∧ Below w.heap.size w wr) (fun _ i _ => 65 - (intOf i).toNat)
  case atStart => exact ⟨1, some ⟨w.heap.size, 0, none⟩, 1, rfl, by omega, by omega, rfl, by rw [h0.out]; exact Ov.lit rfl rfl (Nat.le_refl _) (by omega), (Below.refl _ _).alloc (Nat.le_refl _) _⟩
  case round =>
    obtain ⟨k, P, q, rfl, hk1, hk, rfl, ho, hb⟩ := hrel
    by_cases hlt : k ≤ 64
    · have hs := Lib.hid (cnts_take_succ L k (by omega))
      go_wp2_with fail
      refine (rcount_any A L n cap k _ HN.out hf hk1 ((hA.below hb).more hb.size)).mono ?_
      rintro e w3 ⟨rfl, rfl⟩
      generalize cnt L k = y at *
      go_wp2_with (at_builtin; refine appI rfl (.tmp 10) (.tmp 14) rfl rfl ho rfl (by omega) hb.size ?_; intro A3 c3 w3 o3 g3; have b3 : Below w.heap.size w w3 := Ov.below (ho.alloc _) (hb.alloc hb.size _) g3)
      go_roundw
      case rel => exact ⟨k + 1, A3, c3, by go_num, by omega, by omega, rfl, by rw [hs.out]; exact o3, b3⟩
      case measure => simp [intOf]; omega
    · obtain rfl : k = 65 := by omega
      have e65 : ((65 : Nat) : Int) = 65 := rfl
      rw [e65]
      rw [List.take_of_length_le (by rw [cnts_length]; omega)] at ho
      clear e65
      go_wp2_with fail
      go_ret
      exact ⟨P, 65, q, rfl, ho, hb⟩

set_option maxRecDepth 10000 in
set_option maxHeartbeats 800000 in
theorem rdistinct_any (A : Option Addr) (L : List Snp) (n cap : Nat) (w : World) (hn : L.length = n) (hf : Hid (Few L)) (hA : Sn w w.heap.size A L) :
    Calls Try.prog 36 #[.slice A n cap] w fun e w' => e = .returned (.int .i64 (dst L : Nat)) ∧ w = w' := by
  have HN := Lib.hid hn
  clear hn
  go_enter Try.func36, Try.ntmps36
  go_wp2_with fail
  go_loop [3, 4] (fun h i => ∃ k : Nat, i = .int .i64 k ∧ 1 ≤ k ∧ k ≤ 65 ∧ h = .int .i64 ((whr (fun c => decide (0 < cnt L c)) k).length : Nat)) (fun _ i => 65 - (intOf i).toNat)
  case atStart => exact ⟨1, rfl, by omega, by omega, by rw [whr_one]; rfl⟩
  case round =>
    obtain ⟨k, rfl, hk1, hk, rfl⟩ := hrel
    by_cases hlt : k ≤ 64
    · have hs := whr_succ (fun c => decide (0 < cnt L c)) k
      have hl := whr_le (fun c => decide (0 < cnt L c)) k
      go_wp2_with fail
      refine (rcount_any A L n cap k _ HN.out hf hk1 hA).mono ?_
      rintro e w3 ⟨rfl, rfl⟩
      by_cases hp : 0 < cnt L k
      · have HS := Lib.hid (show (whr (fun c => decide (0 < cnt L c)) (k + 1)).length = (whr (fun c => decide (0 < cnt L c)) k).length + 1 by rw [hs, if_pos (by simp [hp, hk1]), List.length_append]; rfl)
        clear hs
        have t1 : decide ((0 : Int) < ((cnt L k : Nat) : Int)) = true := by simp; omega
        generalize cnt L k = y at *
        generalize (whr (fun c => decide (0 < cnt L c)) k).length = z at *
        go_wp2_with fail
        go_round
        case rel => exact ⟨k + 1, by go_num, by omega, by omega, by rw [HS.out]; go_num⟩
        case measure => simp [intOf]; omega
      · have HS := Lib.hid (show (whr (fun c => decide (0 < cnt L c)) (k + 1)).length = (whr (fun c => decide (0 < cnt L c)) k).length by rw [hs, if_neg (by simp [hp]), List.append_nil])
        clear hs
        have t1 : decide ((0 : Int) < ((cnt L k : Nat) : Int)) = false := by simp; omega
        have t2 : decide (0 < cnt L k) = false := by simp; omega
        generalize cnt L k = y at *
        generalize (whr (fun c => decide (0 < cnt L c)) k).length = z at *
        go_wp2_with fail
        go_round
        case rel => exact ⟨k + 1, by go_num, by omega, by omega, by rw [HS.out]⟩
        case measure => simp [intOf]; omega
    · obtain rfl : k = 65 := by omega
      have e65 : ((65 : Nat) : Int) = 65 := rfl
      rw [e65]
      clear e65
      go_wp2_with fail
      go_ret
      exact ⟨rfl, rfl⟩
end Go.Proofs.Ytaaibgbblehngaa
