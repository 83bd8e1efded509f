/- The walks of the reference's All, and of Same. -/
import Derived.Test.YtcinicmcfoioeaaFrameR
import Derived.Test.YtcinicmcfoioeaaFrameD
namespace Go.Proofs.Ytcinicmcfoioeaa
open Go.RowKit

set_option maxHeartbeats 400000 in
theorem rall_any (A : Option Addr) (b : List UInt8) (n c : Nat) (w : World) (hn : b.length = n) (hcap : n ≤ c) (hc : c ≤ maxLen) (hm : n ≤ 1000000000000) (hA : Bs w w.heap.size A b) :
    Calls Try.prog 27 #[.slice A n c] w (AllOk w b) := by
  unfold maxLen at hc
  have HN := Lib.hid hn
  clear hn
  go_enter Try.func27, Try.ntmps27
  go_wp2_with fail
  go_loopw [4, 5] (fun l a wr => ∃ (L : List (List UInt8)) (Al : Option Addr) (nl cl k : Nat), l = .slice Al nl cl ∧ a = .int .i64 k ∧ k ≤ n ∧ nl ≤ k ∧ OwnR wr w.heap.size Al nl cl L ∧ AllAt b L k ∧ Below w.heap.size w wr) (fun _ a _ => n - (intOf a).toNat)
  case atStart => exact ⟨[], some ⟨w.heap.size, 0, none⟩, 0, 0, 0, rfl, rfl, by omega, by omega, Rw.empty (Nat.le_refl _), by simp [AllAt], (Below.refl _ _).alloc (Nat.le_refl _) _⟩
  case round =>
    obtain ⟨L, Al, nl, cl, k, rfl, rfl, hk, hnl, hown, hat, hb⟩ := hrel
    have hcut := ((hA.below hb).cut HN.out hk hcap).more hb.size
    have hdl := Lib.hid (show (b.drop k).length = n - k by rw [List.length_drop, HN.out])
    by_cases hck : c = k
    · subst hck
      have hkn : n = c := by omega
      subst hkn
      have h0 : b.drop n = [] := List.eq_nil_of_length_eq_zero (by rw [hdl.out]; omega)
      have hf := hat.stop (by rw [h0]; decide)
      have HF := Lib.hid hf
      clear hf h0 hat hcut hdl
      go_wp2_with fail
      refine (rtake_none _ _ _ _ (by omega)).mono ?_
      rintro e w1 ⟨A1, c1, rfl, o1, d1⟩
      have b1 := hb.trans (d1.mono hb.size)
      have hown1 := hown.step d1
      go_wp2_with fail
      go_ret2
      refine ⟨Al, cl, ?_, ?_, b1⟩
      · rw [HF.out, hown.1]; rfl
      · rw [HF.out]; simp only; rw [hown.1]; exact hown1
    · rw [if_neg hck] at hcut
      go_wp2_with fail
      refine (rtake_any _ (b.drop k) _ _ _ hdl.out (by omega) (by omega) hcut).mono ?_
      rintro e w1 ⟨A1, c1, rfl, o1, d1⟩
      have b1 := hb.trans (d1.mono hb.size)
      have hown1 := hown.step d1
      by_cases hz : (ftake (b.drop k)).2.2 = 0
      · have hs := ftake_size _ hz
        rw [hdl.out] at hs
        have HAT := Lib.hid (hat.next hz)
        rw [hz]
        generalize (ftake (b.drop k)).1 = x at *
        generalize (ftake (b.drop k)).2.1 = m at *
        clear hat hz hcut hdl
        have hx := El.of_own (base := w.heap.size) o1
        have hxc := o1.cap
        go_wp2_with (at_builtin; refine appRec rfl (.tmp 22) (.tmp 24) rfl rfl hown1 rfl hx rfl hxc.1 hxc.2 (by omega) b1.size ?_; intro A2 c2 w2 o2 g2; have b2 : Below w.heap.size w w2 := OwnR.below (hown1.step ((Below.refl _ w1).alloc (Nat.le_refl _) _)) (b1.alloc b1.size _) g2)
        go_roundw
        case rel => exact ⟨_, A2, nl + 1, c2, k + m, by rfl, by go_num, by omega, by omega, o2, HAT.out, b2⟩
        case measure => simp [intOf]; omega
      · have hf := hat.stop hz
        have HF := Lib.hid hf
        have he := ftake_err (b.drop k)
        clear hf hat hcut
        rcases he with he | he
        · exact absurd he hz
        rcases he with he | he
        all_goals
          rw [he]
          clear hz
          go_wp2_with fail
          go_ret2
          refine ⟨Al, cl, ?_, ?_, b1⟩
          · rw [HF.out, hown.1]; rfl
          · rw [HF.out]; simp only; rw [hown.1]; exact hown1

set_option maxHeartbeats 800000 in
theorem same_any (A A2 : Option Addr) (L L2 : List (List UInt8)) (n c n2 c2 : Nat) (w : World) (hn : L.length = n) (hn2 : L2.length = n2) (hm : n ≤ 1000000000000) (hm2 : n2 ≤ 1000000000000) (hA : Rr w w.heap.size A L) (hA2 : Rr w w.heap.size A2 L2) :
    Calls Try.prog 28 #[.slice A n c, .slice A2 n2 c2] w fun e w' => e = .returned (.bool (L == L2)) ∧ Below w.heap.size w w' := by
  have HN := Lib.hid hn
  have HN2 := Lib.hid hn2
  by_cases hne : n = n2
  · subst hne
    clear hn hn2
    have hnb : ((n : Int) != (n : Int)) = false := by simp
    go_enter Try.func28, Try.ntmps28
    go_wp2_with fail
    go_loopw [4, 5] (fun r i wr => ∃ k : Nat, k ≤ n ∧ i = .int .i64 k ∧ L.take k = L2.take k ∧ ∃ nq, wr = w.drewN nq) (fun _ i _ => n - (intOf i).toNat)
    case atStart => exact ⟨0, by omega, rfl, by simp, 0, rfl⟩
    case round =>
      obtain ⟨k, hk, rfl, heq, nq, rfl⟩ := hrel
      have HE := Lib.hid heq
      clear heq
      by_cases hlt : k < n
      · obtain ⟨b, off, rfl, hb, hc⟩ := hA (by have := HN.out; omega)
        obtain ⟨b2, off2, rfl, hb2, hc2⟩ := hA2 (by have := HN2.out; omega)
        obtain ⟨Ai, ci, h1, h2, h2', h3⟩ := hc k (by have := HN.out; omega)
        obtain ⟨Bi, di, k1, k2, k2', k3⟩ := hc2 k (by have := HN2.out; omega)
        have hs1 := fun q => conv (A := Ai) (c := ci) rfl (h3.drewN q)
        have hs2 := fun q => conv (A := Bi) (c := di) rfl (k3.drewN q)
        have hse := str_eq (L.getD k []) (L2.getD k [])
        have hg1 := Lib.hid (show L.take (k + 1) = L.take k ++ [L.getD k []] by rw [List.take_succ_eq_append_getElem (by have := HN.out; omega), List.getD_eq_getElem?_getD, List.getElem?_eq_getElem (by have := HN.out; omega)]; rfl)
        have hg2 := Lib.hid (show L2.take (k + 1) = L2.take k ++ [L2.getD k []] by rw [List.take_succ_eq_append_getElem (by have := HN2.out; omega), List.getD_eq_getElem?_getD, List.getElem?_eq_getElem (by have := HN2.out; omega)]; rfl)
        clear hc hc2 hA hA2
        generalize L.getD k [] = x at *
        generalize L2.getD k [] = y at *
        go_wp2_with fail
        go_quiet (fail)
        by_cases hxy : x = y
        · have hdec : (!(x == y)) = false := by rw [Bool.not_eq_false', beq_iff_eq]; exact hxy
          have HXY := Lib.hid hxy
          clear hxy
          rw [hdec]
          go_wp2
          go_roundw
          case rel => exact ⟨k + 1, by omega, by go_num, by rw [hg1.out, hg2.out, HE.out, HXY.out], _, rfl⟩
          case measure => simp [intOf]; omega
        · have hdec : (!(x == y)) = true := by rw [Bool.not_eq_true', beq_eq_false_iff_ne]; exact hxy
          have hLL : (L == L2) = false := by
            rw [beq_eq_false_iff_ne]
            intro h
            have e1 := hg1.out
            rw [h, hg2.out] at e1
            simp at e1
            exact hxy e1.symm
          have HL := Lib.hid hLL
          clear hxy hLL
          rw [hdec]
          go_wp2
          go_ret
          exact ⟨by rw [HL.out]; rfl, below_drewN (below_drewN (Below.refl _ _) _) _⟩
      · obtain rfl : k = n := by omega
        have hLL : L = L2 := by
          have h := HE.out
          rwa [List.take_of_length_le (by rw [HN.out]; omega), List.take_of_length_le (by rw [HN2.out]; omega)] at h
        have HL := Lib.hid hLL
        clear hLL
        go_wp2_with fail
        go_ret
        exact ⟨by rw [HL.out]; simp, below_drewN (Below.refl _ _) _⟩
  · have hnb : ((n : Int) != (n2 : Int)) = true := by simp; omega
    have hLL : (L == L2) = false := by rw [beq_eq_false_iff_ne]; intro h; exact hne (by rw [← hn, ← hn2, h])
    have HL := Lib.hid hLL
    clear hLL hn hn2
    go_enter Try.func28, Try.ntmps28
    go_wp2_with fail
    go_ret
    exact ⟨by rw [HL.out]; rfl, Below.refl _ _⟩
end Go.Proofs.Ytcinicmcfoioeaa
