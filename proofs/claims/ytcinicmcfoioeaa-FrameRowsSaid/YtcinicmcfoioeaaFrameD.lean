/- The walk of frame.All. -/
import Derived.Test.YtcinicmcfoioeaaFrameB
import Derived.Test.YtcinicmcfoioeaaAppRec
namespace Go.Proofs.Ytcinicmcfoioeaa
open Go.RowKit

/-- After some rounds: the records so far, and where the rest begins. -/
def AllAt (b : List UInt8) (L : List (List UInt8)) (k : Nat) : Prop := fall b = (L ++ (fall (b.drop k)).1, k + (fall (b.drop k)).2)

theorem AllAt.next {b : List UInt8} {L : List (List UInt8)} {k : Nat} (h : AllAt b L k) (hz : (ftake (b.drop k)).2.2 = 0) : AllAt b (L ++ [(ftake (b.drop k)).1]) (k + (ftake (b.drop k)).2.1) := by
  unfold AllAt at h ⊢
  rw [h, fall_next _ hz, List.drop_drop]
  simp only [List.append_assoc, List.singleton_append, Nat.add_assoc]

theorem AllAt.stop {b : List UInt8} {L : List (List UInt8)} {k : Nat} (h : AllAt b L k) (hz : (ftake (b.drop k)).2.2 ≠ 0) : fall b = (L, k) := by
  unfold AllAt at h
  rw [h, fall_stop _ hz]
  simp

/-- A slice's rest. -/
theorem Bs.cut {w : World} {B n c k : Nat} {A : Option Addr} {l : List UInt8} (h : Bs w B A l) (hn : l.length = n) (hk : k ≤ n) (hnc : n ≤ c) : Bs w B (if c = k then A else A.map (·.add k)) (l.drop k) := fun hl => by
  have hlt : k < l.length := by simp at hl; omega
  obtain ⟨b, off, rfl, hb, hc⟩ := id h (by omega)
  rw [if_neg (by omega)]
  simp only [Option.map_some, Addr.add_lit]
  exact h.drop k hl

def AllOk (w : World) (b : List UInt8) (e : Ending) (w' : World) : Prop :=
  ∃ A c, e = .returned (.tuple #[.slice A (fall b).1.length c, .int .i64 (fall b).2]) ∧ OwnR w' w.heap.size A (fall b).1.length c (fall b).1 ∧ Below w.heap.size w w'

set_option maxHeartbeats 400000 in
theorem all_any (A : Option Addr) (b : List UInt8) (n c : Nat) (w : World) (hn : b.length = n) (hcap : n ≤ c) (hc : c ≤ maxLen) (hm : n ≤ 1000000000000) (hA : Bs w w.heap.size A b) :
    Calls Try.prog 26 #[.slice A n c] w (AllOk w b) := by
  unfold maxLen at hc
  have HN := Lib.hid hn
  clear hn
  go_enter Try.func26, Try.ntmps26
  go_wp2_with fail
  go_loopw [4, 5] (fun l a wr => ∃ (L : List (List UInt8)) (Al : Option Addr) (nl cl k : Nat), l = .slice Al nl cl ∧ a = .int .i64 k ∧ k ≤ n ∧ nl ≤ k ∧ OwnR wr w.heap.size Al nl cl L ∧ AllAt b L k ∧ Below w.heap.size w wr) (fun _ a _ => n - (intOf a).toNat)
  case atStart => exact ⟨[], none, 0, 0, 0, rfl, rfl, by omega, by omega, Rw.nil_ _ _ _ _, by simp [AllAt], Below.refl _ _⟩
  case round =>
    obtain ⟨L, Al, nl, cl, k, rfl, rfl, hk, hnl, hown, hat, hb⟩ := hrel
    have hcut := ((hA.below hb).cut HN.out hk hcap).more hb.size
    have hdl := Lib.hid (show (b.drop k).length = n - k by rw [List.length_drop, HN.out])
    by_cases hck : c = k
    · subst hck
      have hkn : n = c := by omega
      subst hkn
      have h0 : b.drop n = [] := List.eq_nil_of_length_eq_zero (by rw [hdl.out]; omega)
      have hf := hat.stop (by rw [h0]; decide)
      have HF := Lib.hid hf
      clear hf h0 hat hcut hdl
      go_wp2_with fail
      refine (take_none _ _ _ _ (by omega)).mono ?_
      rintro e w1 ⟨A1, c1, rfl, o1, d1⟩
      have b1 := hb.trans (d1.mono hb.size)
      have hown1 := hown.step d1
      go_wp2_with fail
      go_ret2
      refine ⟨Al, cl, ?_, ?_, b1⟩
      · rw [HF.out, hown.1]; rfl
      · rw [HF.out]; simp only; rw [hown.1]; exact hown1
    · rw [if_neg hck] at hcut
      go_wp2_with fail
      refine (take_any _ (b.drop k) _ _ _ hdl.out (by omega) (by omega) hcut).mono ?_
      rintro e w1 ⟨A1, c1, rfl, o1, d1⟩
      have b1 := hb.trans (d1.mono hb.size)
      have hown1 := hown.step d1
      by_cases hz : (ftake (b.drop k)).2.2 = 0
      · have hs := ftake_size _ hz
        rw [hdl.out] at hs
        have HAT := Lib.hid (hat.next hz)
        rw [hz]
        generalize (ftake (b.drop k)).1 = x at *
        generalize (ftake (b.drop k)).2.1 = m at *
        clear hat hz hcut hdl
        have hx := El.of_own (base := w.heap.size) o1
        have hxc := o1.cap
        have hneg : decide ((m : Int) ≤ 0) = false := by simp; omega
        go_wp2_with (at_builtin; refine appRec rfl (.tmp 25) (.tmp 27) rfl rfl hown1 rfl hx rfl hxc.1 hxc.2 (by omega) b1.size ?_; intro A2 c2 w2 o2 g2; have b2 : Below w.heap.size w w2 := OwnR.below (hown1.step ((Below.refl _ w1).alloc (Nat.le_refl _) _)) (b1.alloc b1.size _) g2)
        go_roundw
        case rel => exact ⟨_, A2, nl + 1, c2, k + m, by rfl, by go_num, by omega, by omega, o2, HAT.out, b2⟩
        case measure => simp [intOf]; omega
      · have hf := hat.stop hz
        have HF := Lib.hid hf
        have he := ftake_err (b.drop k)
        clear hf hat hcut
        rcases he with he | he
        · exact absurd he hz
        rcases he with he | he
        all_goals
          rw [he]
          clear hz
          go_wp2_with fail
          go_ret2
          refine ⟨Al, cl, ?_, ?_, b1⟩
          · rw [HF.out, hown.1]; rfl
          · rw [HF.out]; simp only; rw [hown.1]; exact hown1
end Go.Proofs.Ytcinicmcfoioeaa
