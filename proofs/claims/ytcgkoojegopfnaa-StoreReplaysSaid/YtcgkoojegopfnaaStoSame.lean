/- The walks of SameLog and of Same (chapters 11, 15). -/
import Derived.Test.YtcgkoojegopfnaaStoS
import Derived.Test.YtcgkoojegopfnaaDiskS
import Derived.BigQuiet
import Derived.Deep.QuietTactic
namespace Go.Proofs.Ytcgkoojegopfnaa
open Go.RowKit
set_option linter.unusedSimpArgs false
set_option linter.unusedVariables false

theorem En.drewN {w : World} {F : Nat → Prop} {A : Option Addr} {L : List Ent} (h : En w F A L) (k : Nat) : En (w.drewN k) F A L := h.keep (Nat.le_refl _) fun _ _ _ => rfl

set_option maxRecDepth 100000 in
set_option maxHeartbeats 1600000 in
theorem sameLog_any (F F2 : Nat → Prop) (A A2 : Option Addr) (L L2 : List Ent) (n c n2 c2 : Nat) (w : World) (hn : L.length = n) (hn2 : L2.length = n2) (hm : n ≤ 1000) (hm2 : n2 ≤ 1000) (hA : En w F A L) (hA2 : En w F2 A2 L2) :
    Calls Try.prog 48 #[.slice A n c, .slice A2 n2 c2] w fun e w' => e = .returned (.bool (decide (L = L2))) ∧ Below w.heap.size w w' := by
  have HN := Lib.hid hn
  have HN2 := Lib.hid hn2
  by_cases hne : n = n2
  · subst hne
    clear hn hn2
    have hnb : ((n : Int) != (n : Int)) = false := by simp
    go_enter Try.func48, Try.ntmps48
    go_wp2_with fail
    go_loopw [5] (fun i wr => ∃ k : Nat, k ≤ n ∧ i = .int .i64 k ∧ L.take k = L2.take k ∧ ∃ nq, wr = w.drewN nq) (fun i _ => n - (intOf i).toNat)
    case atStart => exact ⟨0, by omega, rfl, by simp, 0, rfl⟩
    case round =>
      obtain ⟨k, hk, rfl, heq, nq, rfl⟩ := hrel
      have HE := Lib.hid heq
      clear heq
      by_cases hlt : k < n
      · have hx1 : L[k]? = some (L[k]'(by have := HN.out; omega)) := List.getElem?_eq_getElem _
        have hx2 : L2[k]? = some (L2[k]'(by have := HN2.out; omega)) := List.getElem?_eq_getElem _
        obtain ⟨b, off, Ai, ci, rfl, _, hb, c0, c1, h2, h2', h3⟩ := hA.at_ hx1
        obtain ⟨b2, off2, Bi, di, rfl, _, hb2, d0, d1, k2, k2', k3⟩ := hA2.at_ hx2
        have hg1 := Lib.hid (show L.take (k + 1) = L.take k ++ [L[k]'(by have := HN.out; omega)] by rw [List.take_succ_eq_append_getElem (by have := HN.out; omega)])
        have hg2 := Lib.hid (show L2.take (k + 1) = L2.take k ++ [L2[k]'(by have := HN2.out; omega)] by rw [List.take_succ_eq_append_getElem (by have := HN2.out; omega)])
        clear hx1 hx2 hA hA2
        generalize L[k]'(by have := HN.out; omega) = x at *
        generalize L2[k]'(by have := HN2.out; omega) = y at *
        have hs1 := fun q => conv (A := Ai) (c := ci) rfl (h3.bs.drewN q)
        have hs2 := fun q => conv (A := Bi) (c := di) rfl (k3.bs.drewN q)
        have hse := str_eq x.b y.b
        have hLL : x ≠ y → Hid (decide (L = L2) = false) := fun hxy => Lib.hid (by
          rw [decide_eq_false_iff_not]
          intro h
          have e1 := hg1.out
          rw [h, hg2.out] at e1
          simp at e1
          exact hxy e1.symm)
        by_cases ht : x.term = y.term
        · have e1 : (x.term != y.term) = false := by simpa using ht
          have HT := Lib.hid ht
          clear ht
          by_cases hxb : x.b = y.b
          · have hxy : x = y := by
              obtain ⟨t, l⟩ := x
              obtain ⟨t', l'⟩ := y
              have h1 : t = t' := HT.out
              have h2 : l = l' := hxb
              rw [h1, h2]
            have hdec : (!(x.b == y.b)) = false := by rw [Bool.not_eq_false', beq_iff_eq]; exact hxb
            have HXY := Lib.hid hxy
            clear hxy hxb hLL
            go_wp2_with fail
            go_quiet (fail)
            try rw [hdec]
            go_wp2
            go_roundw
            case rel => exact ⟨k + 1, by omega, by go_num, by rw [hg1.out, hg2.out, HE.out, HXY.out], _, rfl⟩
            case measure => simp [intOf]; omega
          · have HL := hLL (fun h => hxb (by rw [h]))
            have hdec : (!(x.b == y.b)) = true := by rw [Bool.not_eq_true', beq_eq_false_iff_ne]; exact hxb
            clear hxb hLL
            go_wp2_with fail
            go_quiet (fail)
            try rw [hdec]
            go_wp2
            go_ret
            exact ⟨by rw [HL.out]; rfl, below_drewN (below_drewN (Below.refl _ _) _) _⟩
        · have HL := hLL (fun h => ht (by rw [h]))
          have e1 : (x.term != y.term) = true := by simpa using ht
          clear ht hLL
          go_wp2_with fail
          go_quiet (fail)
          go_wp2
          go_ret
          exact ⟨by rw [HL.out]; rfl, below_drewN (below_drewN (Below.refl _ _) _) _⟩
      · obtain rfl : k = n := by omega
        have hLL : L = L2 := by
          have h := HE.out
          rwa [List.take_of_length_le (by rw [HN.out]; omega), List.take_of_length_le (by rw [HN2.out]; omega)] at h
        have HL := Lib.hid hLL
        clear hLL
        go_wp2_with fail
        go_ret
        exact ⟨by rw [HL.out]; simp, below_drewN (Below.refl _ _) _⟩
  · have hnb : ((n : Int) != (n2 : Int)) = true := by simp; omega
    have hLL : decide (L = L2) = false := by rw [decide_eq_false_iff_not]; intro h; exact hne (by rw [← hn, ← hn2, h])
    have HL := Lib.hid hLL
    clear hLL hn hn2
    go_enter Try.func48, Try.ntmps48
    go_wp2_with fail
    go_ret
    exact ⟨by rw [HL.out]; rfl, Below.refl _ _⟩

theorem stb_eq (s t : Stb) : s = t ↔ s.log = t.log ∧ s.floor = t.floor ∧ s.term = t.term ∧ s.vote = t.vote := by
  obtain ⟨a, b, c, d⟩ := s
  obtain ⟨a', b', c', d'⟩ := t
  simp only [Stb.mk.injEq]
  constructor
  · rintro ⟨h1, h2, h3, h4⟩; exact ⟨h4, h1, h2, h3⟩
  · rintro ⟨h1, h2, h3, h4⟩; exact ⟨h2, h3, h4, h1⟩

set_option maxRecDepth 100000 in
set_option maxHeartbeats 1600000 in
theorem same_any (F F2 : Nat → Prop) (s t : Stb) (A A2 : Option Addr) (n c n2 c2 : Nat) (w : World) (hm : n ≤ 1000) (hm2 : n2 ≤ 1000) (hs : StF w F s A n c) (ht : StF w F2 t A2 n2 c2) :
    Calls Try.prog 29 #[.agg #[.int .i64 s.floor, .int .i64 s.term, .int .i64 s.vote, .slice A n c], .agg #[.int .i64 t.floor, .int .i64 t.term, .int .i64 t.vote, .slice A2 n2 c2]] w fun e w' => e = .returned (.bool (decide (s = t))) ∧ Below w.heap.size w w' := by
  have b1 := (Below.refl w.heap.size w).alloc (Nat.le_refl _) (.cells #[.int .i64 s.floor, .int .i64 s.term, .int .i64 s.vote, .slice A n c] TSt)
  have b2 := b1.alloc b1.size (.cells #[.int .i64 t.floor, .int .i64 t.term, .int .i64 t.vote, .slice A2 n2 c2] TSt)
  have k1 := (Blk.new w TSt #[.int .i64 s.floor, .int .i64 s.term, .int .i64 s.vote, .slice A n c]).alloc (.cells #[.int .i64 t.floor, .int .i64 t.term, .int .i64 t.vote, .slice A2 n2 c2] TSt)
  have k2 := Blk.new (w.alloc (.cells #[.int .i64 s.floor, .int .i64 s.term, .int .i64 s.vote, .slice A n c] TSt)) TSt #[.int .i64 t.floor, .int .i64 t.term, .int .i64 t.vote, .slice A2 n2 c2]
  rw [World.size_alloc] at k2
  have hL1 := Lib.hid hs.1
  have hL2 := Lib.hid ht.1
  have e1 := hs.2.2.2.step b2
  have e2 := ht.2.2.2.step b2
  have HEQ := Lib.hid (stb_eq s t)
  clear hs ht b1
  go_enter Try.func29, Try.ntmps29
  go_wp2_with fail
  refine (sameLog_any F F2 A A2 s.log t.log n c n2 c2 _ hL1.out hL2.out hm hm2 e1 e2).mono ?_
  rintro e w3 ⟨rfl, b3⟩
  have b4 := b2.trans (b3.mono b2.size)
  have k13 := k1.below b3 k1.lt
  have k23 := k2.below b3 k2.lt
  have y0 := k13.cell 0
  have y1 := k13.cell 1
  have y2 := k13.cell 2
  have z0 := k23.cell 0
  have z1 := k23.cell 1
  have z2 := k23.cell 2
  simp only [List.getElem?_toArray, List.getElem?_cons_zero, List.getElem?_cons_succ] at y0 y1 y2 z0 z1 z2
  clear k1 k2 b2 b3 e1 e2 k13 k23
  by_cases hl : s.log = t.log
  · have d1 : decide (s.log = t.log) = true := by simpa using hl
    rw [d1]
    have HLL := Lib.hid hl
    clear d1 hl
    by_cases hf : s.floor = t.floor
    · have f1 : (s.floor == t.floor) = true := by simpa using hf
      have HF := Lib.hid hf
      clear hf
      by_cases htm : s.term = t.term
      · have t1 : (s.term == t.term) = true := by simpa using htm
        have HTM := Lib.hid htm
        clear htm
        by_cases hv : s.vote = t.vote
        · have v1 : (s.vote == t.vote) = true := by simpa using hv
          have HV := Lib.hid hv
          clear hv
          go_wp2_with fail
          go_ret
          exact ⟨by rw [decide_eq_true (HEQ.out.2 ⟨HLL.out, HF.out, HTM.out, HV.out⟩)]; rfl, b4⟩
        · have v1 : (s.vote == t.vote) = false := by simpa using hv
          have HV := Lib.hid hv
          clear hv
          go_wp2_with fail
          go_ret
          exact ⟨by rw [decide_eq_false (fun h => HV.out (HEQ.out.1 h).2.2.2)]; rfl, b4⟩
      · have t1 : (s.term == t.term) = false := by simpa using htm
        have HTM := Lib.hid htm
        clear htm
        go_wp2_with fail
        go_ret
        exact ⟨by rw [decide_eq_false (fun h => HTM.out (HEQ.out.1 h).2.2.1)]; rfl, b4⟩
    · have f1 : (s.floor == t.floor) = false := by simpa using hf
      have HF := Lib.hid hf
      clear hf
      go_wp2_with fail
      go_ret
      exact ⟨by rw [decide_eq_false (fun h => HF.out (HEQ.out.1 h).2.1)]; rfl, b4⟩
  · have d1 : decide (s.log = t.log) = false := by simpa using hl
    rw [d1]
    have HLL := Lib.hid hl
    clear d1 hl
    go_wp2_with fail
    go_ret
    exact ⟨by rw [decide_eq_false (fun h => HLL.out (HEQ.out.1 h).1)]; rfl, b4⟩
end Go.Proofs.Ytcgkoojegopfnaa
