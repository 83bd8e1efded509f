/- The walk of the laws' helper stable (chapter 15). -/
import Derived.Test.YtcgkoojegopfnaaStoS
import Derived.Deep.DeepCutAuto
namespace Go.Proofs.Ytcgkoojegopfnaa
open Go.RowKit
set_option linter.unusedSimpArgs false
set_option linter.unusedVariables false

def trE (e : Ent) : Ent := { e with b := e.b.take 250 }
def stabOf (s : Stb) : Stb := { s with log := (s.log.take 70).map trE }

theorem BsF.take {w : World} {F : Nat → Prop} {A : Option Addr} {l : List UInt8} (h : BsF w F A l) (n : Nat) : BsF w F A (l.take n) := fun hl => by
  obtain ⟨b, off, rfl, hf, hb, hc⟩ := h (by simp at hl; omega)
  exact ⟨b, off, rfl, hf, hb, fun i hi => by rw [List.getElem_take]; exact hc i (by simp at hi; omega)⟩
theorem OwnE.rowT {w : World} {base n c g : Nat} {F : Nat → Prop} {A : Option Addr} {L : List Ent} {t : TypeId} {cs : Array Value} (h : OwnE w base F A n c L) (hb : Blk w g t cs) (ht : t ≠ TE) : some g ≠ (Value.slice A n c).ownBlock := fun e => by
  obtain ⟨_, vs, ho, _⟩ := h
  obtain ⟨_, _, cs', h3⟩ := ho.row g e.symm
  unfold Blk at hb
  rw [hb] at h3
  injection h3 with h3
  injection h3 with _ h3
  exact ht h3

set_option maxRecDepth 100000 in
set_option maxHeartbeats 3200000 in
theorem stable_any (F : Nat → Prop) (s : Stb) (A : Option Addr) (n c : Nat) (w : World) (hF : ∀ b, F b → b < w.heap.size) (hs : StF w F s A n c) :
    Calls Try.prog 27 #[.agg #[.int .i64 s.floor, .int .i64 s.term, .int .i64 s.vote, .slice A n c]] w (IsStV w F (stabOf s)) := by
  have b1 := (Below.refl w.heap.size w).alloc (Nat.le_refl _) (.cells #[.int .i64 s.floor, .int .i64 s.term, .int .i64 s.vote, .slice A n c] TSt)
  have b2 := b1.alloc b1.size (.cells #[.int .i64 0, .int .i64 0, .int .i64 0, .slice none 0 0] TSt)
  have b3 := b2.alloc b2.size (.cells #[] TE)
  have ks := ((Blk.new w TSt #[.int .i64 s.floor, .int .i64 s.term, .int .i64 s.vote, .slice A n c]).alloc (.cells #[.int .i64 0, .int .i64 0, .int .i64 0, .slice none 0 0] TSt)).alloc (.cells #[] TE)
  have kz := (Blk.new (w.alloc (.cells #[.int .i64 s.floor, .int .i64 s.term, .int .i64 s.vote, .slice A n c] TSt)) TSt #[.int .i64 0, .int .i64 0, .int .i64 0, .slice none 0 0]).alloc (.cells #[] TE)
  rw [World.size_alloc] at kz
  have he := OwnE.empty (w := (w.alloc (.cells #[.int .i64 s.floor, .int .i64 s.term, .int .i64 s.vote, .slice A n c] TSt)).alloc (.cells #[.int .i64 0, .int .i64 0, .int .i64 0, .slice none 0 0] TSt)) (base := w.heap.size) (F := F) (by simp; omega)
  have hns : n ≤ 9223372036854775807 := by have := hs.2.2.1; have := hs.2.1; unfold maxLen at *; omega
  have hsz : ((w.alloc (.cells #[.int .i64 s.floor, .int .i64 s.term, .int .i64 s.vote, .slice A n c] TSt)).alloc (.cells #[.int .i64 0, .int .i64 0, .int .i64 0, .slice none 0 0] TSt)).heap.size = w.heap.size + 1 + 1 := by simp
  rw [hsz] at he
  have HLN := Lib.hid hs.1
  have HF := Lib.hid hF
  have hA := hs.2.2.2
  clear b1 b2 hs hF hsz
  go_enter Try.func27, Try.ntmps27
  go_wp2_with fail
  go_loopw [3, 4] (fun l i wr => ∃ (k : Nat) (Al : Option Addr) (cl : Nat), l = .slice Al k cl ∧ i = .int .i64 k ∧ k ≤ n ∧ k ≤ 70 ∧ OwnE wr w.heap.size F Al k cl ((s.log.take k).map trE) ∧ Below w.heap.size w wr ∧ Blk wr w.heap.size TSt #[.int .i64 s.floor, .int .i64 s.term, .int .i64 s.vote, .slice A n c] ∧ Blk wr (w.heap.size + 1) TSt #[.int .i64 0, .int .i64 0, .int .i64 0, .slice none 0 0]) (fun _ i _ => n - (intOf i).toNat)
  case atStart => exact ⟨0, _, 0, rfl, rfl, by omega, by omega, by simpa using he, b3, ks, kz⟩
  case round =>
    clear b3 ks kz he
    obtain ⟨k, Al, cl, rfl, rfl, hk, hk70, hown, hb, ks, kz⟩ := hrel
    have y0 := ks.cell 0
    have y1 := ks.cell 1
    have y2 := ks.cell 2
    have y3 := ks.cell 3
    have w3 := ks.free 3
    have hl1 := ks.lt
    have hl2 := kz.lt
    simp only [List.getElem?_toArray, List.getElem?_cons_zero, List.getElem?_cons_succ] at y0 y1 y2 y3
    by_cases hlt : k < n ∧ k < 70
    · obtain ⟨hlt, hlt70⟩ := hlt
      have hx : s.log[k]? = some (s.log[k]'(by rw [HLN.out]; exact hlt)) := List.getElem?_eq_getElem _
      have hAw : En wr F A s.log := hA.keep hb.size fun b hf hlt => hb.block b hlt
      obtain ⟨b, off, Ac, cc, rfl, hfb, hbl, c0, c1, hcc, hcm, hbs⟩ := hAw.at_ hx
      have hg := Lib.hid (show (s.log.take (k + 1)).map trE = (s.log.take k).map trE ++ [trE (s.log[k]'(by rw [HLN.out]; exact hlt))] by rw [List.take_succ_eq_append_getElem (by rw [HLN.out]; exact hlt), List.map_append]; rfl)
      clear hx hAw
      generalize s.log[k]'(by rw [HLN.out]; exact hlt) = x at *
      obtain ⟨mb, hmb⟩ : ∃ mb, mb = min x.b.length 250 := ⟨_, rfl⟩
      have hml : (trE x).b.length = mb := by show (x.b.take 250).length = mb; rw [List.length_take]; omega
      have HML := Lib.hid hml
      have HMB := Lib.hid hmb
      have hbt : BsF wr F Ac (trE x).b := hbs.take 250
      have hmc : mb ≤ cc := by omega
      clear hml hmb hbs
      have key : ∀ w4, w4 = (wr.alloc (.cells #[.int .i64 x.term, .slice Ac mb cc] TE)).alloc (.cells #[.int .i64 x.term, .slice Ac mb cc] TE) →
          OwnE w4 w.heap.size F Al k cl ((s.log.take k).map trE) ∧ Below w.heap.size w w4 ∧ Rd w4 w4.heap.size (some ⟨wr.heap.size + 1, 0, none⟩) [.int .i64 x.term, .slice Ac mb cc] ∧ (∀ i y, [trE x][i]? = some y → EnAt w4 F [.int .i64 x.term, .slice Ac mb cc] i y) ∧
          Blk w4 w.heap.size TSt #[.int .i64 s.floor, .int .i64 s.term, .int .i64 s.vote, .slice (some ⟨b, off, none⟩) n c] ∧ Blk w4 (w.heap.size + 1) TSt #[.int .i64 0, .int .i64 0, .int .i64 0, .slice none 0 0] ∧ (∀ b, F b → b < w4.heap.size → some b ≠ (Value.slice Al k cl).ownBlock) := by
        intro w4 hw4
        have bb := ((Below.refl wr.heap.size wr).alloc (Nat.le_refl _) (.cells #[.int .i64 x.term, .slice Ac mb cc] TE)).alloc (by simp) (.cells #[.int .i64 x.term, .slice Ac mb cc] TE)
        have kn := Blk.new (wr.alloc (.cells #[.int .i64 x.term, .slice Ac mb cc] TE)) TE #[.int .i64 x.term, .slice Ac mb cc]
        rw [World.size_alloc] at kn
        rw [← hw4] at bb kn
        refine ⟨hown.step bb, hb.trans (bb.mono hb.size), Rd.of_blk kn, fun i y hy => ?_, ks.below bb ks.lt, kz.below bb kz.lt, fun b hf _ e => ?_⟩
        · match i, hy with
          | 0, hy =>
            obtain rfl : trE x = y := by simpa using hy
            exact ⟨Ac, cc, rfl, by show some (Value.slice Ac mb cc) = _; rw [HML.out], by rw [HML.out]; exact hmc, hcm, hbt.keep bb.size fun b _ hlt => bb.block b hlt⟩
        · have := (hown.2.choose_spec.1.row b e.symm).1
          have := HF.out b hf
          omega
      have KEY := Lib.hid key
      clear key
      have fin : ∀ (A5 : Option Addr) (c5 : Nat) (w5 : World), OwnE w5 w.heap.size F A5 (k + 1) c5 ((s.log.take k).map trE ++ [trE x]) → ((wr.alloc (.cells #[.int .i64 x.term, .slice Ac mb cc] TE)).alloc (.cells #[.int .i64 x.term, .slice Ac mb cc] TE)).grownBy w5 (Value.slice Al k cl).ownBlock →
          OwnE w5 w.heap.size F A5 (k + 1) c5 ((s.log.take (k + 1)).map trE) ∧ Below w.heap.size w w5 ∧ Blk w5 w.heap.size TSt #[.int .i64 s.floor, .int .i64 s.term, .int .i64 s.vote, .slice (some ⟨b, off, none⟩) n c] ∧ Blk w5 (w.heap.size + 1) TSt #[.int .i64 0, .int .i64 0, .int .i64 0, .slice none 0 0] := by
        intro A5 c5 w5 o5 g5
        obtain ⟨q1, q2, q3, q4, q5, q6, q7⟩ := KEY.out _ rfl
        exact ⟨by rw [hg.out]; exact o5, OwnE.below q1 q2 g5, q5.grown g5 (q1.rowT q5 (by decide)), q6.grown g5 (q1.rowT q6 (by decide))⟩
      have FIN := Lib.hid fin
      clear fin
      by_cases h25 : 250 < x.b.length
      · obtain rfl : mb = 250 := by have := HMB.out; omega
        obtain ⟨q1, q2, q3, q4, q5, q6, q7⟩ := KEY.out _ rfl
        have Q4 := Lib.hid q4
        have Q7 := Lib.hid q7
        have hq2 := q2.size
        clear q4 q7 q5 q6
        go_wp2_with (at_builtin; refine appE rfl (.tmp 31) (.tmp 33) rfl rfl q1 rfl (L2 := [trE x]) (vs2 := [.int .i64 x.term, .slice Ac 250 cc]) rfl rfl q3 Q4.out (fun u hu => by simp at hu; rcases hu with rfl | rfl <;> rfl) (by omega) hq2 Q7.out ?_; intro A5 c5 w5 o5 g5 hA5)
        obtain ⟨f1, f2, f3, f4⟩ := FIN.out A5 c5 w5 o5 g5
        go_roundw
        case rel => exact ⟨k + 1, A5, c5, by rfl, by go_num, by omega, by omega, f1, f2, f3, f4⟩
        case measure => simp [intOf]; omega
      · have hmm : x.b.length = mb := by have := HMB.out; omega
        have h25m : ¬ 250 < mb := by omega
        rw [hmm] at c1
        obtain ⟨q1, q2, q3, q4, q5, q6, q7⟩ := KEY.out _ rfl
        have Q4 := Lib.hid q4
        have Q7 := Lib.hid q7
        have hq2 := q2.size
        clear q4 q7 q5 q6 hmm
        go_wp2_with (at_builtin; refine appE rfl (.tmp 31) (.tmp 33) rfl rfl q1 rfl (L2 := [trE x]) (vs2 := [.int .i64 x.term, .slice Ac mb cc]) rfl rfl q3 Q4.out (fun u hu => by simp at hu; rcases hu with rfl | rfl <;> rfl) (by omega) hq2 Q7.out ?_; intro A5 c5 w5 o5 g5 hA5)
        obtain ⟨f1, f2, f3, f4⟩ := FIN.out A5 c5 w5 o5 g5
        go_roundw
        case rel => exact ⟨k + 1, A5, c5, by rfl, by go_num, by omega, by omega, f1, f2, f3, f4⟩
        case measure => simp [intOf]; omega
    · have hkk : (s.log.take k) = s.log.take 70 := by
        by_cases h70 : k = 70
        · rw [h70]
        · have hkn : k = n := by omega
          rw [List.take_of_length_le (by rw [HLN.out]; omega), List.take_of_length_le (by rw [HLN.out]; omega)]
      rw [hkk] at hown
      have hnF : ¬ F w.heap.size := fun h => by have := HF.out _ h; omega
      have hnF1 : ¬ F (w.heap.size + 1) := fun h => by have := HF.out _ h; omega
      have o4 := hown.setT ks (by decide) hnF 3 (.slice Al k cl)
      have k24 := kz.far (p := ⟨w.heap.size, 3, none⟩) (by simp) (.slice Al k cl)
      have o5 := o4.setT k24 (by decide) hnF1 0 (.int .i64 s.floor)
      have k25 := k24.set 0 (.int .i64 s.floor)
      have o6 := o5.setT k25 (by decide) hnF1 1 (.int .i64 s.term)
      have k26 := k25.set 1 (.int .i64 s.term)
      have o7 := o6.setT k26 (by decide) hnF1 2 (.int .i64 s.vote)
      have k27 := k26.set 2 (.int .i64 s.vote)
      have o8 := o7.setT k27 (by decide) hnF1 3 (.slice Al k cl)
      have bfin := ((((hb.setCell (p := ⟨w.heap.size, 3, none⟩) (Nat.le_refl _) (.slice Al k cl)).setCell (p := ⟨w.heap.size + 1, 0, none⟩) (Nat.le_succ _) (.int .i64 s.floor)).setCell (p := ⟨w.heap.size + 1, 1, none⟩) (Nat.le_succ _) (.int .i64 s.term)).setCell (p := ⟨w.heap.size + 1, 2, none⟩) (Nat.le_succ _) (.int .i64 s.vote)).setCell (p := ⟨w.heap.size + 1, 3, none⟩) (Nat.le_succ _) (.slice Al k cl)
      have q0 := kz.cell 0
      have q1 := kz.cell 1
      have q2 := kz.cell 2
      have q3 := kz.cell 3
      have p0 := kz.free 0
      have p1 := kz.free 1
      have p2 := kz.free 2
      have p3 := kz.free 3
      simp only [List.getElem?_toArray, List.getElem?_cons_zero, List.getElem?_cons_succ] at q0 q1 q2 q3
      clear o4 o5 o6 o7 k24 k25 k26 k27 hkk hown
      by_cases hkn : k < n
      · obtain rfl : k = 70 := by omega
        go_wp2_with fail
        exact bodyPost_ret (v := .agg #[.int .i64 s.floor, .int .i64 s.term, .int .i64 s.vote, .slice Al 70 cl]) (by simp [results, Try.results27, go_sem, q0, q1, q2, q3, hl2]) rfl ⟨Al, 70, cl, rfl, o8, bfin⟩
      · obtain rfl : k = n := by omega
        go_wp2_with fail
        exact bodyPost_ret (v := .agg #[.int .i64 s.floor, .int .i64 s.term, .int .i64 s.vote, .slice Al k cl]) (by simp [results, Try.results27, go_sem, q0, q1, q2, q3, hl2]) rfl ⟨Al, k, cl, rfl, o8, bfin⟩
end Go.Proofs.Ytcgkoojegopfnaa
