/- The walks of disk.Crash, Sync, Cut. -/
import Derived.Test.YtcgkoojegopfnaaDiskA
import Derived.RegionTactic
import Derived.ChangeAlike
import Derived.BigQuiet
import Derived.Deep.DeepCutAuto
import Derived.Deep.QuietTactic
namespace Go.Proofs.Ytcgkoojegopfnaa
open Go.RowKit

theorem Own.take {w : World} {base n c : Nat} {A : Option Addr} {l : List UInt8} (h : Own w base A n c l) (k : Nat) (hk : k ≤ n) : Own w base A k c (l.take k) := by
  obtain ⟨hn, hlen, hv⟩ := h
  refine ⟨by rw [List.length_take]; omega, by rw [List.length_map, List.length_take]; omega, ?_⟩
  rcases hv with ⟨hv, h0⟩ | ⟨g, cap, cur, hv, hb, hg, hnc, hcm, hsz, ht⟩
  · left
    injection hv with h1 h2 h3
    have : k = 0 := by omega
    exact ⟨by rw [h1, h3, this], this⟩
  · right
    injection hv with h1 h2 h3
    refine ⟨g, cap, cur, by rw [h1, h3], hb, hg, by omega, hcm, hsz, ?_⟩
    rw [List.map_take, ← ht, List.take_take, Nat.min_eq_left (by omega), Nat.mul_one]

set_option maxRecDepth 10000 in
set_option maxHeartbeats 1600000 in
theorem crash_any (base g : Nat) (q : Option Nat) (d : Dsk) (k : Int) (w : World) (hd : Dk w base g q d) :
    Calls Try.prog 15 #[.pointer (some ⟨g, 0, none⟩), .int .i64 k] w (Does w base g q (dCrash d k) (.tuple #[])) := by
  have hok2 := hd.2.1.crash k
  obtain ⟨hg, hok, A, n, c, hq, hb, ho⟩ := hd
  have hn := ho.1
  have hcap := ho.cap
  unfold maxLen at hcap
  obtain ⟨hc1, hc2⟩ := hcap
  have hok1 := hok.1
  have hok64 := hok.2
  rw [hn] at hok1 hok64
  obtain ⟨st, hst⟩ : ∃ st, dStay d k = st := ⟨_, rfl⟩
  have hst2 : st = min k.toNat (n - d.syn) := by rw [← hst, ← hn]; rfl
  have HC := Lib.hid (show dCrash d k = ⟨d.b.take (d.syn + st), d.syn + st, true, false, 0⟩ by unfold dCrash; rw [hst])
  have HT := Lib.hid (show (d.b.take (d.syn + st)).length = d.syn + st by rw [List.length_take]; omega)
  have c0 := hb.cell 0
  have c1 := hb.cell 1
  simp only [dCells, List.getElem?_toArray, List.getElem?_cons_zero, List.getElem?_cons_succ] at c0 c1
  have ST := Lib.hid hst2
  clear hst hst2 hn
  go_enter Try.func15, Try.ntmps15
  go_upto_region 1 with (fail)
  go_cut [1] (fun v wx => v = .int .i64 (st : Nat) ∧ ∃ nq, wx = w.drewN nq)
  case first =>
    generalize d.syn = s at *
    have hsn : (s : Int) ≤ (n : Int) := by omega
    have hw : IntKind.i64.wrap ((n : Int) - (s : Int)) = (n : Int) - (s : Int) := IntWalk.i64_in _ (by omega)
    by_cases hk : k < 0
    · have hk1 : ¬ 0 < k := by omega
      have e0 : st = 0 := by have := ST.out; omega
      subst e0
      by_cases hr : s < n
      · have hr1 : (0 : Int) < (n : Int) - (s : Int) := by omega
        go_quiet (fail)
        clear hw
        go_wp2_with fail
        go_meet
        exact ⟨rfl, nq, rfl⟩
      · have hr1 : ¬ (0 : Int) < (n : Int) - (s : Int) := by omega
        have hr2 : (n : Int) - (s : Int) = 0 := by omega
        go_quiet (fail)
        clear hw
        go_wp2_with fail
        go_meet
        exact ⟨rfl, nq, rfl⟩
    · by_cases hk0 : k = 0
      · subst hk0
        have e0 : st = 0 := by have := ST.out; omega
        subst e0
        by_cases hr : s < n
        · have hr1 : (0 : Int) < (n : Int) - (s : Int) := by omega
          go_quiet (fail)
          clear hw
          go_wp2_with fail
          go_meet
          exact ⟨rfl, nq, rfl⟩
        · have hr1 : ¬ (0 : Int) < (n : Int) - (s : Int) := by omega
          have hr2 : (n : Int) - (s : Int) = 0 := by omega
          go_quiet (fail)
          clear hw
          go_wp2_with fail
          go_meet
          exact ⟨rfl, nq, rfl⟩
      · have hkp : 0 < k := by omega
        rcases Int.lt_trichotomy k ((n : Int) - (s : Int)) with hr | hr | hr
        · have e0 : (st : Int) = k := by have := ST.out; omega
          have E0 := Lib.hid e0
          clear e0
          go_quiet (fail)
          clear hw
          go_wp2_with fail
          go_meet
          exact ⟨by rw [E0.out], nq, rfl⟩
        · have e0 : (st : Int) = (n : Int) - (s : Int) := by have := ST.out; omega
          have E0 := Lib.hid e0
          subst hr
          clear e0
          go_quiet (fail)
          clear hw
          go_wp2_with fail
          go_meet
          exact ⟨by rw [E0.out], nq, rfl⟩
        · have e0 : (st : Int) = (n : Int) - (s : Int) := by have := ST.out; omega
          have E0 := Lib.hid e0
          clear e0
          go_quiet (fail)
          clear hw
          go_wp2_with fail
          go_meet
          exact ⟨by rw [E0.out], nq, rfl⟩
  case rest =>
    obtain ⟨rfl, nq, rfl⟩ := hcut
    have hst3 : d.syn + st ≤ n := by have := ST.out; omega
    have f0 := hb.free 0
    have f1 := hb.free 1
    have f2 := hb.free 2
    have f3 := hb.free 3
    have f4 := hb.free 4
    have c2 := hb.cell 2
    have c3 := hb.cell 3
    have c4 := hb.cell 4
    simp only [dCells, List.getElem?_toArray, List.getElem?_cons_zero, List.getElem?_cons_succ] at c2 c3 c4
    have HB := Lib.hid hb
    have HO := Lib.hid ho
    have HOK := Lib.hid hok2
    clear hb ho hok2 hok
    generalize hsyn : d.syn = s at *
    have HSYN := Lib.hid hsyn
    clear hsyn
    have hsc : (s : Int) + (st : Int) ≤ (c : Int) := by omega
    have hs0 : (0 : Int) ≤ (s : Int) + (st : Int) := by omega
    have hw1 : IntKind.i64.wrap ((s : Int) + (st : Int)) = (s : Int) + (st : Int) := IntWalk.i64_in _ (by omega)
    have hw2 : ((s : Int) + (st : Int)).toNat = s + st := by omega
    go_wp2_with fail
    go_region
    go_wp2_with fail
    have k0 : Blk (w.drewN (nq + 1)) g TD (dCells d A n c) := HB.out
    have k1 := k0.set 0 (.slice A (s + st) c)
    have k2 := k1.set 1 (.int .i64 ((s : Int) + (st : Int)))
    have k3 := k2.set 2 (.bool true)
    have k4 := k3.set 3 (.bool false)
    have k5 := k4.set 4 (.int .i64 0)
    have o0 : Own (w.drewN (nq + 1)) base A (s + st) c (d.b.take (s + st)) := HO.out.take (s + st) hst3
    have o5 := ((((o0.setD k0 0 (.slice A (s + st) c)).setD k1 1 (.int .i64 ((s : Int) + (st : Int)))).setD k2 2 (.bool true)).setD k3 3 (.bool false)).setD k4 4 (.int .i64 0)
    have t5 := ((((((Touch.refl w g q).drewN (nq + 1)).set 0 (.slice A (s + st) c)).set 1 (.int .i64 ((s : Int) + (st : Int)))).set 2 (.bool true)).set 3 (.bool false)).set 4 (.int .i64 0)
    have hcells : ((((((dCells d A n c).setIfInBounds 0 (.slice A (s + st) c)).setIfInBounds 1 (.int .i64 ((s : Int) + (st : Int)))).setIfInBounds 2 (.bool true)).setIfInBounds 3 (.bool false)).setIfInBounds 4 (.int .i64 0)) = dCells ⟨d.b.take (s + st), s + st, true, false, 0⟩ A (s + st) c := by
      simp [dCells]
    rw [hcells] at k5
    have hfin : Dk (((((((w.drewN (nq + 1)).setCell ⟨g, 0, none⟩ (.slice A (s + st) c)).setCell ⟨g, 1, none⟩ (.int .i64 ((s : Int) + (st : Int)))).setCell ⟨g, 2, none⟩ (.bool true)).setCell ⟨g, 3, none⟩ (.bool false)).setCell ⟨g, 4, none⟩ (.int .i64 0))) base g q (dCrash d k) := by
      rw [HC.out]
      refine ⟨hg, by have := HOK.out; rw [HC.out] at this; exact this, A, s + st, c, by rw [hq]; cases A <;> rfl, k5, o5⟩
    clear k0 k1 k2 k3 k4 k5 o0 o5 hcells
    go_end0
    exact ⟨q, rfl, hfin, t5, .inl rfl⟩
end Go.Proofs.Ytcgkoojegopfnaa
