/- The walk of the law StoreCuts. -/
import Derived.Test.YtcgkoojegopfnaaStoSt
import Derived.Test.YtcgkoojegopfnaaStoSame
import Derived.Test.YtcgkoojegopfnaaStoStab
import Derived.Test.YtcgkoojegopfnaaStoH
namespace Go.Proofs.Ytcgkoojegopfnaa
open Go.RowKit
set_option linter.unusedSimpArgs false
set_option linter.unusedVariables false

theorem and20 (t : Int) : 0 ≤ bits .and .i64 t 1048575 ∧ bits .and .i64 t 1048575 ≤ 1048575 := by
  have h : ((BitVec.ofInt IntKind.i64.bits t) &&& (BitVec.ofInt IntKind.i64.bits 1048575)).toNat ≤ 1048575 := by
    rw [BitVec.toNat_and]
    exact Nat.le_trans Nat.and_le_right (by decide)
  have e : bits .and .i64 t 1048575 = IntKind.i64.wrap (((BitVec.ofInt IntKind.i64.bits t) &&& (BitVec.ofInt IntKind.i64.bits 1048575)).toNat : Int) := rfl
  rw [e, IntWalk.i64_in _ (by omega)]
  omega

/-- A state that reads. -/
abbrev StA (w : World) (s : Stb) (A : Option Addr) (n c : Nat) : Prop := StF w (fun _ => True) s A n c
theorem StF.all {w : World} {F : Nat → Prop} {s : Stb} {A : Option Addr} {n c : Nat} (h : StF w F s A n c) : StA w s A n c := ⟨h.1, h.2.1, h.2.2.1, h.2.2.2.mono fun _ _ _ => trivial⟩
theorem StF.lt {w : World} {F : Nat → Prop} {s : Stb} {A : Option Addr} {n c : Nat} (h : StF w F s A n c) : StF w (fun b => b < w.heap.size) s A n c := ⟨h.1, h.2.1, h.2.2.1, h.2.2.2.mono fun _ _ hb => hb⟩

/-- Step, for states that read. -/
theorem stepA (s : Stb) (A : Option Addr) (n c : Nat) (r : Rcd) (X : Option Addr) (m cx : Nat) (w : World) (hs : StA w s A n c) (hn : n ≤ 1000) (hm : r.x.length = m) (hmm : m ≤ 1000000) (hX : Bs w w.heap.size X r.x)
    (ha : -9223372036854775808 ≤ r.a ∧ r.a ≤ 9223372036854775807) (hb : -9223372036854775808 ≤ r.b ∧ r.b ≤ 9223372036854775807) :
    Calls Try.prog 28 #[.agg #[.int .i64 s.floor, .int .i64 s.term, .int .i64 s.vote, .slice A n c], .agg #[.int .i64 r.kind, .int .i64 r.a, .int .i64 r.b, .slice X m cx]] w fun e w' =>
      ∃ A' n' c', e = .returned (.tuple #[.agg #[.int .i64 (sStep s r).1.floor, .int .i64 (sStep s r).1.term, .int .i64 (sStep s r).1.vote, .slice A' n' c'], .int .i64 (sStep s r).2]) ∧ StA w' (sStep s r).1 A' n' c' ∧ Below w.heap.size w w' := by
  refine (step_any (fun b => b < w.heap.size) s A n c r X m cx w (fun _ h => h) hs.lt hn hm hmm hX ha hb).mono ?_
  rintro e w' ⟨A', n', c', rfl, h1, h2⟩
  exact ⟨A', n', c', rfl, h1.all, h2⟩

theorem cuts_put (s : Stb) (v : Int) (x : List UInt8) (n : Nat) (hn : s.log.length = n) (h60 : n ≤ 60) (hv : 0 ≤ v ∧ v ≤ 1048575) (hx : x.length ≤ 200) : sStep s ⟨3, (n : Int) + 1, v, x⟩ = ({ s with log := s.log ++ [⟨v, x⟩] }, 0) := by
  have hok : rOk ⟨3, (n : Int) + 1, v, x⟩ = true := by
    unfold rOk
    have : kd 3 = ⟨1, 64, true, 1048576, 200⟩ := rfl
    simp only [this, decide_eq_true_eq]
    omega
  have hfit : stFit s ⟨3, (n : Int) + 1, v, x⟩ = true := by unfold stFit; simp [hn]
  unfold sStep
  rw [if_pos hok, if_pos hfit]
  rfl
theorem cuts_cut (s : Stb) (n : Nat) (h60 : n ≤ 60) (hn : n + 1 ≤ s.log.length) : sStep s ⟨4, (n : Int) + 1, 0, []⟩ = ({ s with log := s.log.take n }, 0) := by
  have hok : rOk ⟨4, (n : Int) + 1, 0, []⟩ = true := by
    unfold rOk
    have : kd 4 = ⟨1, 64, false, 0, 0⟩ := rfl
    simp only [this, decide_eq_true_eq, List.length_nil]
    omega
  have hfit : stFit s ⟨4, (n : Int) + 1, 0, []⟩ = true := by unfold stFit; simp; omega
  unfold sStep
  rw [if_pos hok, if_pos hfit]
  have e : ((n : Int) + 1 - 1).toNat = n := by omega
  unfold stNext
  simp [e]
theorem cuts_no (s : Stb) (n : Nat) (h60 : n ≤ 60) (hn : s.log.length = n) : sStep s ⟨4, (n : Int) + 1, 0, []⟩ = (s, 5) := by
  have hok : rOk ⟨4, (n : Int) + 1, 0, []⟩ = true := by
    unfold rOk
    have : kd 4 = ⟨1, 64, false, 0, 0⟩ := rfl
    simp only [this, decide_eq_true_eq, List.length_nil]
    omega
  have hfit : stFit s ⟨4, (n : Int) + 1, 0, []⟩ = false := by unfold stFit; simp; omega
  unfold sStep
  rw [if_pos hok, if_neg (by rw [hfit]; simp)]

set_option maxRecDepth 100000 in
set_option maxHeartbeats 3200000 in
theorem storeCuts_walk (w : World) (s : Stb) (A : Option Addr) (n c : Nat) (hs : StF w (fun b => b < w.heap.size) s A n c) (term : Int) (hterm : -9223372036854775808 ≤ term ∧ term ≤ 9223372036854775807) (X : Option Addr) (lx : List UInt8) (m cx : Nat) (hm : lx.length = m) (hmc : m ≤ cx) (hcm : cx ≤ maxLen) (hX : Bs w w.heap.size X lx) :
    Calls Try.prog 7 #[.agg #[.int .i64 s.floor, .int .i64 s.term, .int .i64 s.vote, .slice A n c], .int .i64 term, .slice X m cx] w fun e w' => e = .returned (.bool true) ∧ Below w.heap.size w w' := by
  unfold maxLen at hcm
  obtain ⟨mx, hmx⟩ : ∃ mx, mx = min m 200 := ⟨_, rfl⟩
  have hlx : (lx.take 200).length = mx := by rw [List.length_take]; omega
  have hX2 := hX.take 200
  obtain ⟨x, hx⟩ : ∃ x, lx.take 200 = x := ⟨_, rfl⟩
  rw [hx] at hlx hX2
  have HLX := Lib.hid hlx
  have HMX := Lib.hid hmx
  have hmx200 : mx ≤ 200 := by omega
  have hmxc : mx ≤ cx := by omega
  obtain ⟨v, hv⟩ : ∃ v, bits .and .i64 term 1048575 = v := ⟨_, rfl⟩
  have hvb := and20 term
  rw [hv] at hvb
  have kb := Blk.new w TSt #[.int .i64 s.floor, .int .i64 s.term, .int .i64 s.vote, .slice A n c]
  have ba := (Below.refl w.heap.size w).alloc (Nat.le_refl _) (.cells #[.int .i64 s.floor, .int .i64 s.term, .int .i64 s.vote, .slice A n c] TSt)
  have hsa := hs.step ba
  clear hm hX hx hlx hmx hs
  go_enter Try.func7, Try.ntmps7
  go_wp2_with fail
  refine (shown15_any _).mono ?_
  rintro e w1 ⟨rfl, b1⟩
  have k1 := kb.below b1 kb.lt
  have bw1 := ba.trans (b1.mono ba.size)
  have hs1 := hsa.step b1
  have c0 := k1.cell 0
  have c1 := k1.cell 1
  have c2 := k1.cell 2
  have c3 := k1.cell 3
  simp only [List.getElem?_toArray, List.getElem?_cons_zero, List.getElem?_cons_succ] at c0 c1 c2 c3
  have hsz1 := bw1.size
  clear kb ba b1 hsa
  go_wp2_with fail
  refine (stable_any (fun b => b < w.heap.size) s A n c _ (fun b h => by omega) hs1).mono ?_
  rintro e w2 ⟨A2, n2, c2', rfl, o2, b2⟩
  have k2 := k1.below b2 k1.lt
  have bw2 := bw1.trans (b2.mono bw1.size)
  have hln2 := o2.1
  have hn70 : n2 ≤ 70 := by
    have h : (stabOf s).log.length ≤ 70 := by show ((s.log.take 70).map trE).length ≤ 70; rw [List.length_map, List.length_take]; omega
    omega
  generalize stabOf s = s1 at *
  have d0 := k2.cell 0
  have d1 := k2.cell 1
  have d2 := k2.cell 2
  have d3 := k2.cell 3
  have f0 := k2.free 0
  have f1 := k2.free 1
  have f2 := k2.free 2
  have f3 := k2.free 3
  have hgl := k2.lt
  simp only [List.getElem?_toArray, List.getElem?_cons_zero, List.getElem?_cons_succ] at d0 d1 d2 d3
  unfold stV
  have hcap2 := o2.cap
  obtain ⟨hcap2a, hcap2b⟩ := hcap2
  unfold maxLen at hcap2b
  clear c0 c1 c2 c3 k1 hs1 b2
  obtain ⟨n3, hn3⟩ : ∃ n3, n3 = min n2 60 := ⟨_, rfl⟩
  have HN3 := Lib.hid hn3
  have hn60 : n3 ≤ 60 := by omega
  have HLN2 := Lib.hid hln2
  clear hn3 hln2
  go_upto_if 25 with (fail)
  go_cut [] (fun wx => Below w.heap.size w wx ∧ Blk wx w.heap.size TSt #[.int .i64 s1.floor, .int .i64 s1.term, .int .i64 s1.vote, .slice A2 n3 c2'] ∧ StA wx { s1 with log := s1.log.take n3 } A2 n3 c2')
  case first =>
    have hnF : ¬ (w.heap.size < w.heap.size) := by omega
    have o3 := (((o2.setT k2 (by decide) hnF 0 (.int .i64 s1.floor)).setT (k2.set 0 (.int .i64 s1.floor)) (by decide) hnF 1 (.int .i64 s1.term)).setT ((k2.set 0 (.int .i64 s1.floor)).set 1 (.int .i64 s1.term)) (by decide) hnF 2 (.int .i64 s1.vote)).setT (((k2.set 0 (.int .i64 s1.floor)).set 1 (.int .i64 s1.term)).set 2 (.int .i64 s1.vote)) (by decide) hnF 3 (.slice A2 n2 c2')
    have k3 := (((k2.set 0 (.int .i64 s1.floor)).set 1 (.int .i64 s1.term)).set 2 (.int .i64 s1.vote)).set 3 (.slice A2 n2 c2')
    have bw3 := (((bw2.setCell (p := ⟨w.heap.size, 0, none⟩) (Nat.le_refl _) (.int .i64 s1.floor)).setCell (p := ⟨w.heap.size, 1, none⟩) (Nat.le_refl _) (.int .i64 s1.term)).setCell (p := ⟨w.heap.size, 2, none⟩) (Nat.le_refl _) (.int .i64 s1.vote)).setCell (p := ⟨w.heap.size, 3, none⟩) (Nat.le_refl _) (.slice A2 n2 c2')
    have st3 : StA ((((w2.setCell ⟨w.heap.size, 0, none⟩ (.int .i64 s1.floor)).setCell ⟨w.heap.size, 1, none⟩ (.int .i64 s1.term)).setCell ⟨w.heap.size, 2, none⟩ (.int .i64 s1.vote)).setCell ⟨w.heap.size, 3, none⟩ (.slice A2 n2 c2')) s1 A2 n2 c2' := ⟨o3.1, o3.cap.1, o3.cap.2, o3.en (fun _ _ _ => trivial) (fun _ _ _ => trivial)⟩
    by_cases h60 : 60 < n2
    · obtain rfl : n3 = 60 := by have := HN3.out; omega
      have h60c : 60 ≤ c2' := by omega
      have st4 := st3.2.2.2.take 60
      have o4 := o3.setT k3 (by decide) hnF 3 (.slice A2 60 c2')
      have k4 := k3.set 3 (.slice A2 60 c2')
      have bw4 := bw3.setCell (p := ⟨w.heap.size, 3, none⟩) (Nat.le_refl _) (.slice A2 60 c2')
      have en4 := (o4.en (F' := fun _ => True) (fun _ _ _ => trivial) (fun _ _ _ => trivial)).take 60
      have HL60 := Lib.hid (show (s1.log.take 60).length = 60 by rw [List.length_take, HLN2.out]; omega)
      clear o3 st3 st4 k3 bw3 o4
      go_wp2_with fail
      go_meet
      exact ⟨bw4, k4, HL60.out, h60c, by unfold maxLen; omega, en4⟩
    · obtain rfl : n3 = n2 := by have := HN3.out; omega
      clear o2
      go_wp2_with fail
      go_meet
      have htk : s1.log.take n3 = s1.log := List.take_of_length_le (by rw [HLN2.out]; omega)
      exact ⟨bw3, k3, by rw [htk]; exact st3⟩
  case rest =>
    obtain ⟨b3, k3, st3⟩ := hcut
    clear o2 k2 bw2 d0 d1 d2 d3 f0 f1 f2 f3 hgl
    have hl3 : (s1.log.take n3).length = n3 := st3.1
    obtain ⟨s2, hs2⟩ : ∃ s2 : Stb, { s1 with log := s1.log.take n3 } = s2 := ⟨_, rfl⟩
    have q0 : s2.floor = s1.floor := by rw [← hs2]
    have q1 : s2.term = s1.term := by rw [← hs2]
    have q2 : s2.vote = s1.vote := by rw [← hs2]
    have q3 : s2.log.length = n3 := by rw [← hs2]; exact hl3
    rw [hs2] at st3
    rw [← q0, ← q1, ← q2] at k3
    have HL2 := Lib.hid q3
    clear hs2 q0 q1 q2 q3 hl3
    have hX3 := hX2.below b3
    have d0 := k3.cell 0
    have d1 := k3.cell 1
    have d2 := k3.cell 2
    have d3 := k3.cell 3
    have hgl := k3.lt
    simp only [List.getElem?_toArray, List.getElem?_cons_zero, List.getElem?_cons_succ] at d0 d1 d2 d3
    go_upto_if 32 with (fail)
    go_cut [2] (fun t wx => t = .slice X mx cx ∧ wx = wc)
    case first =>
      by_cases h20 : 200 < m
      · obtain rfl : mx = 200 := by have := HMX.out; omega
        have h20c : 200 ≤ cx := by omega
        go_wp2_with fail
        go_meet
        exact ⟨rfl, rfl⟩
      · obtain rfl : mx = m := by have := HMX.out; omega
        go_wp2_with fail
        go_meet
        exact ⟨rfl, rfl⟩
    case rest =>
      obtain ⟨rfl, hwc⟩ := hcut
      subst hwc
      have hw1 : IntKind.i64.wrap ((n3 : Int) + 1) = (n3 : Int) + 1 := IntWalk.i64_in _ (by omega)
      have HP := Lib.hid (cuts_put s2 v x n3 HL2.out hn60 hvb (by have := HLX.out; omega))
      have br := (Below.refl wc.heap.size wc).alloc (Nat.le_refl _) (.cells #[.int .i64 3, .int .i64 ((n3 : Int) + 1), .int .i64 v, .slice X mx cx] TRec)
      have k8 := Blk.new wc TRec #[.int .i64 3, .int .i64 ((n3 : Int) + 1), .int .i64 v, .slice X mx cx]
      have st4 := st3.step br
      have b4 := b3.trans (br.mono b3.size)
      have k4 := k3.below br k3.lt
      have hX4 := (hX3.below (br.mono b3.size)).more b4.size
      go_wp2_with fail
      refine (stepA s2 A2 n3 c2' ⟨3, (n3 : Int) + 1, v, x⟩ X mx cx _ st4 (by omega) HLX.out (by omega) hX4 ⟨by show (-9223372036854775808 : Int) ≤ (n3 : Int) + 1; omega, by show (n3 : Int) + 1 ≤ 9223372036854775807; omega⟩ ⟨by show (-9223372036854775808 : Int) ≤ v; omega, by show v ≤ 9223372036854775807; omega⟩).mono ?_
      rintro e w5 ⟨A5, n5, c5, rfl, st5, b5⟩
      rw [HP.out] at st5 ⊢
      simp only at st5 ⊢
      obtain ⟨a, ha⟩ : ∃ a : Stb, { s2 with log := s2.log ++ [⟨v, x⟩] } = a := ⟨_, rfl⟩
      have a0 : a.floor = s2.floor := by rw [← ha]
      have a1 : a.term = s2.term := by rw [← ha]
      have a2 : a.vote = s2.vote := by rw [← ha]
      have a3 : a.log = s2.log ++ [⟨v, x⟩] := by rw [← ha]
      have HA := Lib.hid ha
      rw [ha] at st5
      rw [← a0, ← a1, ← a2]
      have hn5 : n5 = n3 + 1 := by rw [← st5.1, a3, List.length_append, HL2.out]; rfl
      subst hn5
      have HQ := Lib.hid (show sStep a ⟨4, (n3 : Int) + 1, 0, []⟩ = (s2, 0) by
        rw [cuts_cut a n3 hn60 (by rw [a3, List.length_append, HL2.out]; simp)]
        congr 1
        rw [a3, List.take_append_of_le_length (by rw [HL2.out]; exact Nat.le_refl _), List.take_of_length_le (by rw [HL2.out]; exact Nat.le_refl _), ← ha])
      have HNO := Lib.hid (cuts_no s2 n3 hn60 HL2.out)
      have bw5 := b4.trans (b5.mono b4.size)
      have k35 := k4.below b5 k4.lt
      have k85 := k8.below b5 k8.lt
      have hX5 := hX2.below bw5
      have st25 := st4.step b5
      have ba5 := (Below.refl w5.heap.size w5).alloc (Nat.le_refl _) (.cells #[.int .i64 a.floor, .int .i64 a.term, .int .i64 a.vote, .slice A5 (n3 + 1) c5] TSt)
      have k9 := Blk.new w5 TSt #[.int .i64 a.floor, .int .i64 a.term, .int .i64 a.vote, .slice A5 (n3 + 1) c5]
      have st6 := st5.step ba5
      have k36 := k35.below ba5 k35.lt
      have k86 := k85.below ba5 k85.lt
      have b6 := bw5.trans (ba5.mono bw5.size)
      have st26 := st25.step ba5
      have g9 := k9.lt
      have g3 := k36.lt
      have g8 := k86.lt
      clear ha a0 a1 a2 d0 d1 d2 d3 k3 k4 k8 br st3 st4 b4 b3 b5 bw5 st25 ba5 st5 hX4 hX3 hgl
      have p0 := k35.cell 0
      have p1 := k35.cell 1
      have p2 := k35.cell 2
      have p3 := k35.cell 3
      simp only [List.getElem?_toArray, List.getElem?_cons_zero, List.getElem?_cons_succ] at p0 p1 p2 p3
      have g35 := k35.lt
      clear k35 k85
      go_wp2_with fail
      refine (stepA a A5 (n3 + 1) c5 ⟨4, (n3 : Int) + 1, 0, []⟩ none 0 0 _ st6 (by omega) rfl (by omega) Bs.nil ⟨by show (-9223372036854775808 : Int) ≤ (n3 : Int) + 1; omega, by show (n3 : Int) + 1 ≤ 9223372036854775807; omega⟩ ⟨by show (-9223372036854775808 : Int) ≤ 0; decide, by show (0 : Int) ≤ 9223372036854775807; decide⟩).mono ?_
      rintro e w7 ⟨A7, n7, c7, rfl, st7, b7⟩
      rw [HQ.out] at st7 ⊢
      simp only at st7 ⊢
      have hn7 : n7 = n3 := by rw [← st7.1, HL2.out]
      subst hn7
      have bw7 := b6.trans (b7.mono b6.size)
      have k97 := k9.below b7 k9.lt
      have k37 := k36.below b7 k36.lt
      have k87 := k86.below b7 k86.lt
      have st67 := st6.step b7
      have st27 := st26.step b7
      have ba7 := (Below.refl w7.heap.size w7).alloc (Nat.le_refl _) (.cells #[.int .i64 s2.floor, .int .i64 s2.term, .int .i64 s2.vote, .slice A7 n7 c7] TSt)
      have k11 := Blk.new w7 TSt #[.int .i64 s2.floor, .int .i64 s2.term, .int .i64 s2.vote, .slice A7 n7 c7]
      have st8 := st7.step ba7
      have b8 := bw7.trans (ba7.mono bw7.size)
      have k98 := k97.below ba7 k97.lt
      have k38 := k37.below ba7 k37.lt
      have k88 := k87.below ba7 k87.lt
      have st68 := st67.step ba7
      have st28 := st27.step ba7
      have hX8 := (hX2.below b8).more b8.size
      have g87 := k87.lt
      clear p0 p1 p2 p3 k9 k36 k86 k37 k97 st6 st26 st67 st27 b6 b7 bw7 ba7 st7 g9 g3 g8 g35
      have p0 := k87.cell 0
      have p1 := k87.cell 1
      have p2 := k87.cell 2
      have p3 := k87.cell 3
      simp only [List.getElem?_toArray, List.getElem?_cons_zero, List.getElem?_cons_succ] at p0 p1 p2 p3
      clear k87
      go_wp2_with fail
      refine (stepA s2 A7 n7 c7 ⟨3, (n7 : Int) + 1, v, x⟩ X mx cx _ st8 (by omega) HLX.out (by omega) hX8 ⟨by show (-9223372036854775808 : Int) ≤ (n7 : Int) + 1; omega, by show (n7 : Int) + 1 ≤ 9223372036854775807; omega⟩ ⟨by show (-9223372036854775808 : Int) ≤ v; omega, by show v ≤ 9223372036854775807; omega⟩).mono ?_
      rintro e w9 ⟨A9, n9, c9, rfl, st9, b9⟩
      rw [HP.out] at st9 ⊢
      rw [HA.out] at st9
      rw [HA.out]
      simp only at st9 ⊢
      have bw9 := b8.trans (b9.mono b8.size)
      have k119 := k11.below b9 k11.lt
      have k99 := k98.below b9 k98.lt
      have k39 := k38.below b9 k38.lt
      have st89 := st8.step b9
      have st69 := st68.step b9
      have st29 := st28.step b9
      have ba9 := (Below.refl w9.heap.size w9).alloc (Nat.le_refl _) (.cells #[.int .i64 a.floor, .int .i64 a.term, .int .i64 a.vote, .slice A9 n9 c9] TSt)
      have k13 := Blk.new w9 TSt #[.int .i64 a.floor, .int .i64 a.term, .int .i64 a.vote, .slice A9 n9 c9]
      have st10 := st9.step ba9
      have b10 := bw9.trans (ba9.mono bw9.size)
      have k1110 := k119.below ba9 k119.lt
      have k910 := k99.below ba9 k99.lt
      have k310 := k39.below ba9 k39.lt
      have st810 := st89.step ba9
      have st610 := st69.step ba9
      have st210 := st29.step ba9
      have g11 := k119.lt
      have g39 := k39.lt
      clear p0 p1 p2 p3 k11 k98 k38 k88 st8 st68 st28 b8 b9 bw9 ba9 st9 st89 st69 st29 g87
      have p0 := k119.cell 0
      have p1 := k119.cell 1
      have p2 := k119.cell 2
      have p3 := k119.cell 3
      simp only [List.getElem?_toArray, List.getElem?_cons_zero, List.getElem?_cons_succ] at p0 p1 p2 p3
      have q0 := k39.cell 0
      have q1 := k39.cell 1
      have q2 := k39.cell 2
      have q3 := k39.cell 3
      simp only [List.getElem?_toArray, List.getElem?_cons_zero, List.getElem?_cons_succ] at q0 q1 q2 q3
      clear k119 k39 k99
      go_wp2_with fail
      refine (stepA s2 A7 n7 c7 ⟨4, (n7 : Int) + 1, 0, []⟩ none 0 0 _ st810 (by omega) rfl (by omega) Bs.nil ⟨by show (-9223372036854775808 : Int) ≤ (n7 : Int) + 1; omega, by show (n7 : Int) + 1 ≤ 9223372036854775807; omega⟩ ⟨by show (-9223372036854775808 : Int) ≤ 0; decide, by show (0 : Int) ≤ 9223372036854775807; decide⟩).mono ?_
      rintro e w11 ⟨A11, n11, c11, rfl, st11, b11⟩
      rw [HNO.out] at st11 ⊢
      simp only at st11 ⊢
      have bw11 := b10.trans (b11.mono b10.size)
      have ba11 := (Below.refl w11.heap.size w11).alloc (Nat.le_refl _) (.cells #[.int .i64 s2.floor, .int .i64 s2.term, .int .i64 s2.vote, .slice A11 n11 c11] TSt)
      have b12 := bw11.trans (ba11.mono bw11.size)
      have k1111 := k1110.below b11 k1110.lt
      have k311 := k310.below b11 k310.lt
      have k1112 := k1111.below ba11 k1111.lt
      have k912 := (k910.below b11 k910.lt).below ba11 (Nat.lt_of_lt_of_le k910.lt b11.size)
      have k312 := k311.below ba11 k311.lt
      have k1312 := (k13.below b11 k13.lt).below ba11 (Nat.lt_of_lt_of_le k13.lt b11.size)
      have st812 := (st810.step b11).step ba11
      have st612 := (st610.step b11).step ba11
      have st212 := (st210.step b11).step ba11
      have st1012 := (st10.step b11).step ba11
      have hn9 := st1012.1
      have hn9' : n9 = n7 + 1 := by rw [← hn9, a3, List.length_append, HL2.out]; rfl
      subst hn9'
      have g11' := k1111.lt
      have g31' := k311.lt
      clear p0 p1 p2 p3 q0 q1 q2 q3
      have p0 := k1111.cell 0
      have p1 := k1111.cell 1
      have p2 := k1111.cell 2
      have p3 := k1111.cell 3
      simp only [List.getElem?_toArray, List.getElem?_cons_zero, List.getElem?_cons_succ] at p0 p1 p2 p3
      have q0 := k311.cell 0
      have q1 := k311.cell 1
      have q2 := k311.cell 2
      have q3 := k311.cell 3
      simp only [List.getElem?_toArray, List.getElem?_cons_zero, List.getElem?_cons_succ] at q0 q1 q2 q3
      clear k1110 k910 k310 k13 st810 st610 st210 st10 st11 b10 b11 bw11 ba11 g11 g39 hn9 a3 k1111 k311
      go_wp2_with fail
      refine (same_any _ _ s2 s2 A7 A2 n7 c7 n7 c2' _ (by omega) (by omega) st812 st212).mono ?_
      rintro e w13 ⟨rfl, b13⟩
      rw [show decide (s2 = s2) = true from decide_eq_true rfl]
      have b14 := b12.trans (b13.mono b12.size)
      have k913 := k912.below b13 k912.lt
      have k313 := k312.below b13 k312.lt
      have k1313 := k1312.below b13 k1312.lt
      have st613 := st612.step b13
      have st1013 := st1012.step b13
      clear p0 p1 p2 p3 q0 q1 q2 q3 k1112 k912 k312 k1312 st812 st612 st212 st1012 b13 b12 g11' g31'
      have p0 := k913.cell 0
      have p1 := k913.cell 1
      have p2 := k913.cell 2
      have p3 := k913.cell 3
      simp only [List.getElem?_toArray, List.getElem?_cons_zero, List.getElem?_cons_succ] at p0 p1 p2 p3
      have q0 := k1313.cell 0
      have q1 := k1313.cell 1
      have q2 := k1313.cell 2
      have q3 := k1313.cell 3
      simp only [List.getElem?_toArray, List.getElem?_cons_zero, List.getElem?_cons_succ] at q0 q1 q2 q3
      go_wp2_with fail
      refine (same_any _ _ a a A5 A9 (n7 + 1) c5 (n7 + 1) c9 _ (by omega) (by omega) st613 st1013).mono ?_
      rintro e w15 ⟨rfl, b15⟩
      rw [show decide (a = a) = true from decide_eq_true rfl]
      have b16 := b14.trans (b15.mono b14.size)
      have k915 := k913.below b15 k913.lt
      have k315 := k313.below b15 k313.lt
      clear p0 p1 p2 p3 q0 q1 q2 q3 k913 k313 k1313 st613 st1013 b15 b14
      have p3 := k915.cell 3
      have q3 := k315.cell 3
      simp only [List.getElem?_toArray, List.getElem?_cons_zero, List.getElem?_cons_succ] at p3 q3
      go_wp2_with fail
      go_ret
      exact ⟨by simp, b16⟩
end Go.Proofs.Ytcgkoojegopfnaa
