/- The walk of the laws' helper records (chapter 15). -/
import Derived.Test.YtcgkoojegopfnaaRcs
import Derived.Test.YtcgkoojegopfnaaStoH
import Derived.Test.YtcgkoojegopfnaaStoStab
namespace Go.Proofs.Ytcgkoojegopfnaa
open Go.RowKit
set_option linter.unusedSimpArgs false
set_option linter.unusedVariables false

def trR (r : Rcd) : Rcd := { r with x := r.x.take 250 }
def recsOf (L : List Rcd) : List Rcd := (L.take 30).map trR

set_option maxRecDepth 100000 in
set_option maxHeartbeats 3200000 in
theorem records_any (F : Nat → Prop) (L : List Rcd) (A : Option Addr) (n c : Nat) (w : World) (hF : ∀ b, F b → b < w.heap.size) (hn : L.length = n) (hnc : n ≤ c) (hcm : c ≤ maxLen) (hL : Rc w F A L) :
    Calls Try.prog 34 #[.slice A n c] w fun e w' => ∃ A' n' c', e = .returned (.slice A' n' c') ∧ OwnC w' w.heap.size F A' n' c' (recsOf L) ∧ Below w.heap.size w w' := by
  have b1 := (Below.refl w.heap.size w).alloc (Nat.le_refl _) (.cells #[] TRec)
  have he := OwnC.empty (w := w) (base := w.heap.size) (F := F) (Nat.le_refl _)
  have hns : n ≤ 9223372036854775807 := by unfold maxLen at *; omega
  have HLN := Lib.hid hn
  have HF := Lib.hid hF
  clear hn hF hnc hcm
  go_enter Try.func34, Try.ntmps34
  go_wp2_with fail
  go_loopw [3, 4] (fun l i wr => ∃ (k : Nat) (Al : Option Addr) (cl : Nat), l = .slice Al k cl ∧ i = .int .i64 k ∧ k ≤ n ∧ k ≤ 30 ∧ OwnC wr w.heap.size F Al k cl ((L.take k).map trR) ∧ Below w.heap.size w wr) (fun _ i _ => n - (intOf i).toNat)
  case atStart => exact ⟨0, _, 0, rfl, rfl, by omega, by omega, by simpa using he, b1⟩
  case round =>
    clear b1 he
    obtain ⟨k, Al, cl, rfl, rfl, hk, hk30, hown, hb⟩ := hrel
    by_cases hlt : k < n ∧ k < 30
    · obtain ⟨hlt, hlt30⟩ := hlt
      have hx : L[k]? = some (L[k]'(by rw [HLN.out]; exact hlt)) := List.getElem?_eq_getElem _
      have hAw : Rc wr F A L := hL.keep hb.size fun b hf hlt => hb.block b hlt
      obtain ⟨b, off, Ac, cc, rfl, hfb, hbl, c0, c1, c2, c3, hcc, hcm, hbs, g1, g2, g3⟩ := hAw.at_ hx
      have hg := Lib.hid (show (L.take (k + 1)).map trR = (L.take k).map trR ++ [trR (L[k]'(by rw [HLN.out]; exact hlt))] by rw [List.take_succ_eq_append_getElem (by rw [HLN.out]; exact hlt), List.map_append]; rfl)
      clear hx hAw
      generalize L[k]'(by rw [HLN.out]; exact hlt) = x at *
      obtain ⟨mb, hmb⟩ : ∃ mb, mb = min x.x.length 250 := ⟨_, rfl⟩
      have hml : (trR x).x.length = mb := by show (x.x.take 250).length = mb; rw [List.length_take]; omega
      have HML := Lib.hid hml
      have hbt : BsF wr F Ac (trR x).x := hbs.take 250
      have hmc : mb ≤ cc := by omega
      have HMB := Lib.hid hmb
      clear hml hbs hmb
      go_wp2_with fail
      refine (record_any x Ac x.x.length cc mb wr HMB.out hcc hcm).mono ?_
      rintro e w2 ⟨rfl, b2⟩
      have o2 := hown.step b2
      have hb2 := hb.trans (b2.mono hb.size)
      have hbt2 := hbt.keep b2.size fun b _ hlt => b2.block b hlt
      have bb := (Below.refl w2.heap.size w2).alloc (Nat.le_refl _) (.cells #[.int .i64 x.kind, .int .i64 x.a, .int .i64 x.b, .slice Ac mb cc] TRec)
      have kn := Blk.new w2 TRec #[.int .i64 x.kind, .int .i64 x.a, .int .i64 x.b, .slice Ac mb cc]
      have q1 := o2.step bb
      have q2 := hb2.trans (bb.mono hb2.size)
      have q3 : Rd (w2.alloc (.cells #[.int .i64 x.kind, .int .i64 x.a, .int .i64 x.b, .slice Ac mb cc] TRec)) (w2.alloc (.cells #[.int .i64 x.kind, .int .i64 x.a, .int .i64 x.b, .slice Ac mb cc] TRec)).heap.size (some ⟨w2.heap.size, 0, none⟩) [.int .i64 x.kind, .int .i64 x.a, .int .i64 x.b, .slice Ac mb cc] := Rd.of_blk kn
      have Q4 := Lib.hid (show ∀ i y, [trR x][i]? = some y → RcAt (w2.alloc (.cells #[.int .i64 x.kind, .int .i64 x.a, .int .i64 x.b, .slice Ac mb cc] TRec)) F [.int .i64 x.kind, .int .i64 x.a, .int .i64 x.b, .slice Ac mb cc] i y from fun i y hy => by
        match i, hy with
        | 0, hy =>
          obtain rfl : trR x = y := by simpa using hy
          exact ⟨Ac, cc, rfl, rfl, rfl, by show some (Value.slice Ac mb cc) = _; rw [HML.out], by rw [HML.out]; exact hmc, hcm, hbt2.keep bb.size fun b _ hlt => bb.block b hlt, g1, g2, g3⟩)
      have Q7 := Lib.hid (show ∀ b, F b → b < (w2.alloc (.cells #[.int .i64 x.kind, .int .i64 x.a, .int .i64 x.b, .slice Ac mb cc] TRec)).heap.size → some b ≠ (Value.slice Al k cl).ownBlock from fun b hf _ e => by
        have := (q1.2.choose_spec.1.row b e.symm).1
        have := HF.out b hf
        omega)
      have hq2 := q2.size
      clear hb b2 hown o2 hb2 hbt hbt2 bb kn
      go_wp2_with (at_builtin; refine appC rfl (.tmp 16) (.tmp 22) rfl rfl q1 rfl (L2 := [trR x]) (vs2 := [.int .i64 x.kind, .int .i64 x.a, .int .i64 x.b, .slice Ac mb cc]) rfl rfl q3 Q4.out (fun u hu => by simp at hu; rcases hu with rfl | rfl | rfl | rfl <;> rfl) (by omega) hq2 Q7.out ?_; intro A5 c5 w5 o5 g5 hA5)
      rw [← hg.out] at o5
      have b5 := OwnC.below q1 q2 g5
      go_roundw
      case rel => exact ⟨k + 1, A5, c5, by rfl, by go_num, by omega, by omega, o5, b5⟩
      case measure => simp [intOf]; omega
    · have hkk : (L.take k) = L.take 30 := by
        by_cases h30 : k = 30
        · rw [h30]
        · have hkn : k = n := by omega
          rw [List.take_of_length_le (by rw [HLN.out]; omega), List.take_of_length_le (by rw [HLN.out]; omega)]
      rw [hkk] at hown
      clear hkk
      by_cases hkn : k < n
      · obtain rfl : k = 30 := by omega
        go_wp2_with fail
        go_ret
        exact ⟨Al, 30, cl, rfl, hown, hb⟩
      · obtain rfl : k = n := by omega
        go_wp2_with fail
        go_ret
        exact ⟨Al, k, cl, rfl, hown, hb⟩
end Go.Proofs.Ytcgkoojegopfnaa
