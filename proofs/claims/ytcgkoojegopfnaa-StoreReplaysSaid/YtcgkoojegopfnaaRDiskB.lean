/- The walks of the document's disk: Crash, Sync. -/
import Derived.Test.YtcgkoojegopfnaaRDiskA
import Derived.Test.YtcgkoojegopfnaaRegS
namespace Go.Proofs.Ytcgkoojegopfnaa
open Go.RowKit
set_option linter.unusedSimpArgs false
set_option linter.unusedVariables false

/-- A slice of the call's own that is not nil. -/
def IsOwnS (base : Nat) (l : List UInt8) (v : Value) (w : World) : Prop := ∃ A n c, v = .slice A n c ∧ Own w base A n c l ∧ A ≠ none
theorem isOwnS_step (base : Nat) (l : List UInt8) : ∀ v w w', Below w.heap.size w w' → IsOwnS base l v w → IsOwnS base l v w' := fun _ _ _ hb ⟨A, n, c, h1, h2, h3⟩ => ⟨A, n, c, h1, h2.step hb, h3⟩
/-- How the world is while a disk's bytes are replaced: not yet, or with the new ones. -/
def CrSt (w0 : World) (base g : Nat) (q : Option Nat) (d : Dsk) (A : Option Addr) (n c : Nat) (l : List UInt8) (s : Nat) (w : World) : Prop :=
  Touch w0 w g q ∧ (s ≤ 1 → Blk w g TR (dCells d A n c) ∧ Own w base A n c d.b) ∧ (s = 2 → ∃ A2 n2 c2, Blk w g TR ((dCells d A n c).setIfInBounds 0 (.slice A2 n2 c2)) ∧ Own w w0.heap.size A2 n2 c2 l ∧ A2 ≠ none)
theorem CrSt.step {w0 w w' : World} {base g : Nat} {q : Option Nat} {d : Dsk} {A : Option Addr} {n c : Nat} {l : List UInt8} {s : Nat} (hb : Below w.heap.size w w') (h : CrSt w0 base g q d A n c l s w) : CrSt w0 base g q d A n c l s w' := by
  obtain ⟨h1, h2, h3⟩ := h
  refine ⟨h1.trans (Touch.of_below hb), fun hs => ⟨(h2 hs).1.below hb (h2 hs).1.lt, (h2 hs).2.step hb⟩, fun hs => ?_⟩
  obtain ⟨A2, n2, c2, k1, k2, k3⟩ := h3 hs
  exact ⟨A2, n2, c2, k1.below hb k1.lt, k2.step hb, k3⟩

set_option maxRecDepth 10000 in
set_option maxHeartbeats 1600000 in
theorem rcrash_any (base g : Nat) (q : Option Nat) (d : Dsk) (k : Int) (w : World) (hd : Rk w base g q d) (hbase : base ≤ w.heap.size) :
    Calls Try.prog 44 #[.pointer (some ⟨g, 0, none⟩), .int .i64 k] w (RDoes w base g q (dCrash d k) (.tuple #[])) := by
  have hok2 := hd.2.1.crash k
  have hqlt := Lib.hid hd.q_lt
  obtain ⟨hg, hok, A, n, c, hq, hb, ho⟩ := hd
  have HQ := Lib.hid hq
  clear hq
  have hn := ho.1
  have hcap := ho.cap
  unfold maxLen at hcap
  obtain ⟨hc1, hc2⟩ := hcap
  have hok1 := hok.1
  have hok64 := hok.2
  rw [hn] at hok1 hok64
  obtain ⟨st, hst⟩ : ∃ st, dStay d k = st := ⟨_, rfl⟩
  have hst2 : st = min k.toNat (n - d.syn) := by rw [← hst, ← hn]; rfl
  have HC := Lib.hid (show dCrash d k = ⟨d.b.take (d.syn + st), d.syn + st, true, false, 0⟩ by unfold dCrash; rw [hst])
  have HT := Lib.hid (show (d.b.take (d.syn + st)).length = d.syn + st by rw [List.length_take]; omega)
  have c0 := hb.cell 0
  have c1 := hb.cell 1
  simp only [dCells, List.getElem?_toArray, List.getElem?_cons_zero, List.getElem?_cons_succ] at c0 c1
  have ST := Lib.hid hst2
  clear hst hst2 hn
  go_enter Try.func44, Try.ntmps44
  go_upto_region 0 with (fail)
  go_cut [4] (fun v wx => v = .int .i64 (st : Nat) ∧ ∃ nq, wx = w.drewN nq)
  case first =>
    generalize d.syn = s at *
    have hsn : (s : Int) ≤ (n : Int) := by omega
    have hw : IntKind.i64.wrap ((n : Int) - (s : Int)) = (n : Int) - (s : Int) := IntWalk.i64_in _ (by omega)
    by_cases hk : k < 0
    · have hk1 : ¬ 0 < k := by omega
      have e0 : st = 0 := by have := ST.out; omega
      subst e0
      by_cases hr : s < n
      · have hr1 : (0 : Int) < (n : Int) - (s : Int) := by omega
        go_quiet (fail)
        clear hw
        go_wp2_with fail
        go_meet
        exact ⟨rfl, nq, rfl⟩
      · have hr1 : ¬ (0 : Int) < (n : Int) - (s : Int) := by omega
        have hr2 : (n : Int) - (s : Int) = 0 := by omega
        go_quiet (fail)
        clear hw
        go_wp2_with fail
        go_meet
        exact ⟨rfl, nq, rfl⟩
    · by_cases hk0 : k = 0
      · subst hk0
        have e0 : st = 0 := by have := ST.out; omega
        subst e0
        by_cases hr : s < n
        · have hr1 : (0 : Int) < (n : Int) - (s : Int) := by omega
          go_quiet (fail)
          clear hw
          go_wp2_with fail
          go_meet
          exact ⟨rfl, nq, rfl⟩
        · have hr1 : ¬ (0 : Int) < (n : Int) - (s : Int) := by omega
          have hr2 : (n : Int) - (s : Int) = 0 := by omega
          go_quiet (fail)
          clear hw
          go_wp2_with fail
          go_meet
          exact ⟨rfl, nq, rfl⟩
      · have hkp : 0 < k := by omega
        rcases Int.lt_trichotomy k ((n : Int) - (s : Int)) with hr | hr | hr
        · have e0 : (st : Int) = k := by have := ST.out; omega
          have E0 := Lib.hid e0
          clear e0
          go_quiet (fail)
          clear hw
          go_wp2_with fail
          go_meet
          exact ⟨by rw [E0.out], nq, rfl⟩
        · have e0 : (st : Int) = (n : Int) - (s : Int) := by have := ST.out; omega
          have E0 := Lib.hid e0
          subst hr
          clear e0
          go_quiet (fail)
          clear hw
          go_wp2_with fail
          go_meet
          exact ⟨by rw [E0.out], nq, rfl⟩
        · have e0 : (st : Int) = (n : Int) - (s : Int) := by have := ST.out; omega
          have E0 := Lib.hid e0
          clear e0
          go_quiet (fail)
          clear hw
          go_wp2_with fail
          go_meet
          exact ⟨by rw [E0.out], nq, rfl⟩
  case rest =>
    obtain ⟨rfl, nq, rfl⟩ := hcut
    have hst3 : d.syn + st ≤ n := by have := ST.out; omega
    have HB := Lib.hid hb
    have HO := Lib.hid ho
    have HOK := Lib.hid hok2
    have hgl := hb.lt
    clear hb ho hok2 hok c0 c1
    have hsyn : ∃ s, d.syn = s := ⟨_, rfl⟩
    obtain ⟨s, hsyn⟩ := hsyn
    have HS := Lib.hid hsyn
    rw [hsyn] at HC hst3 HT
    have hs64 : s ≤ n := by omega
    have hn64 : n ≤ 65536 := by omega
    clear hsyn
    have hsc : (s : Int) + (st : Int) ≤ (c : Int) := by omega
    have hs0 : (0 : Int) ≤ (s : Int) + (st : Int) := by omega
    have hw1 : IntKind.i64.wrap ((s : Int) + (st : Int)) = (s : Int) + (st : Int) := IntWalk.i64_in _ (by omega)
    have hw2 : ((s : Int) + (st : Int)).toNat = s + st := by omega
    obtain ⟨l, hl⟩ : ∃ l, d.b.take (s + st) = l := ⟨_, rfl⟩
    have HL := Lib.hid hl
    rw [hl] at HT HC
    clear hl
    go_wp2_with fail
    refine wp_region_invX (B := base) (by kernel_rfl) ?hB1 [.val (.pointer (some ⟨g, 0, none⟩)), .at 0 (IsOwnS w.heap.size []) (isOwnS_step _ _), .val (.pointer (some ⟨g, 0, none⟩)), .val (.pointer (some ⟨g, 0, none⟩)), .val (.pointer (some ⟨g, 0, none⟩)), .valAt 0 0 (.slice A n c), .val (.pointer (some ⟨g, 0, none⟩)), .val (.pointer (some ⟨g, 0, none⟩)), .val (.pointer (some ⟨g, 1, none⟩)), .valAt 0 0 (.int .i64 (s : Nat)), .val (.int .i64 (st : Nat)), .val (.int .i64 ((s : Int) + (st : Int))), .val (.slice A (s + st) c), .fx_ 0 (IsOwnS w.heap.size l) (isOwnS_step _ _), .val (.pointer (some ⟨g, 0, none⟩)), .val (.pointer (some ⟨g, 0, none⟩)), .fxAt 1 undef] [13, 16] (CrSt w base g q d A n c l) (T := ?T1) (by kernel_rfl) ?hSt1 ?h01 ?hT1 ?hask1 ?hend1
    case hB1 =>
      exact hbase
    case hSt1 =>
      exact fun _ _ _ hb h => h.step hb
    case h01 =>
      exact ⟨(Touch.refl _ _ _).drewN _, fun _ => ⟨HB.out, HO.out⟩, fun h => by omega⟩
    case hT1 =>
      intro vs
      simp only [fill, Act.put, List.setIfInBounds_toArray, List.set_cons_succ, List.set_cons_zero, Nat.reduceAdd]
      exact rfl
    case hask1 =>
      refine askX_cons (fun vs w1 s hlo hhi hb hst hd hin => ?_) ?_; (focus (clear hlo hhi hst hin; simp only [DepX, Region.binds, SxI, List.getD_cons_zero, List.getD_cons_succ, Sx.av_val, Sx.av_valAt, Sx.av_fxAt, Sx.av_bsAt, Sx.av_ownAt, Sx.av_fxOwn, Sx.av_at, Sx.av_fx, Sx.av_on, Sx.av_fxOn, and_true] at hd; go_simp; exact givx_pure rfl rfl))
      refine askX_cons (fun vs w1 s hlo hhi hb hst hd hin => ?_) ?_
      · obtain rfl : s = 0 := Nat.le_antisymm hhi hlo
        clear hlo hhi
        have hst : CrSt w base g q d A n c l 0 w1 := hst
        simp only [DepX, Region.binds, SxI, List.getD_cons_zero, List.getD_cons_succ, Sx.av_val, Sx.av_valAt, Sx.av_fxAt, Sx.av_bsAt, Sx.av_ownAt, Sx.av_fxOwn, Sx.av_at, Sx.av_fx, Sx.av_on, Sx.av_fxOn, and_true] at hd
        go_simp
        exact givx_value rfl ((Below.refl _ _).alloc (Nat.le_refl _) _) ⟨_, _, _, rfl, Ob.empty hst.1.size, by simp⟩
      iterate 3 (refine askX_cons (fun vs w1 s hlo hhi hb hst hd hin => ?_) ?_; (focus (clear hlo hhi hst hin; simp only [DepX, Region.binds, SxI, List.getD_cons_zero, List.getD_cons_succ, Sx.av_val, Sx.av_valAt, Sx.av_fxAt, Sx.av_bsAt, Sx.av_ownAt, Sx.av_fxOwn, Sx.av_at, Sx.av_fx, Sx.av_on, Sx.av_fxOn, and_true] at hd; go_simp; exact givx_pure rfl rfl)))
      refine askX_cons (fun vs w1 s hlo hhi hb hst hd hin => ?_) ?_
      · obtain rfl : s = 0 := Nat.le_antisymm hhi hlo
        clear hlo hhi
        have hst : CrSt w base g q d A n c l 0 w1 := hst
        simp only [DepX, Region.binds, SxI, List.getD_cons_zero, List.getD_cons_succ, Sx.av_val, Sx.av_valAt, Sx.av_fxAt, Sx.av_bsAt, Sx.av_ownAt, Sx.av_fxOwn, Sx.av_at, Sx.av_fx, Sx.av_on, Sx.av_fxOn, and_true] at hd
        have c0 := (hst.2.1 (by omega)).1.cell 0
        simp only [dCells, List.getElem?_toArray, List.getElem?_cons_zero] at c0
        go_simp
        exact givx_pure rfl rfl
      iterate 3 (refine askX_cons (fun vs w1 s hlo hhi hb hst hd hin => ?_) ?_; (focus (clear hlo hhi hst hin; simp only [DepX, Region.binds, SxI, List.getD_cons_zero, List.getD_cons_succ, Sx.av_val, Sx.av_valAt, Sx.av_fxAt, Sx.av_bsAt, Sx.av_ownAt, Sx.av_fxOwn, Sx.av_at, Sx.av_fx, Sx.av_on, Sx.av_fxOn, and_true] at hd; go_simp; exact givx_pure rfl rfl)))
      refine askX_cons (fun vs w1 s hlo hhi hb hst hd hin => ?_) ?_
      · obtain rfl : s = 0 := Nat.le_antisymm hhi hlo
        clear hlo hhi
        have hst : CrSt w base g q d A n c l 0 w1 := hst
        simp only [DepX, Region.binds, SxI, List.getD_cons_zero, List.getD_cons_succ, Sx.av_val, Sx.av_valAt, Sx.av_fxAt, Sx.av_bsAt, Sx.av_ownAt, Sx.av_fxOwn, Sx.av_at, Sx.av_fx, Sx.av_on, Sx.av_fxOn, and_true] at hd
        have c1 := (hst.2.1 (by omega)).1.cell 1
        simp only [dCells, HS.out, List.getElem?_toArray, List.getElem?_cons_zero, List.getElem?_cons_succ] at c1
        go_simp
        exact givx_pure rfl rfl
      iterate 3 (refine askX_cons (fun vs w1 s hlo hhi hb hst hd hin => ?_) ?_; (focus (clear hlo hhi hst hin; simp only [DepX, Region.binds, SxI, List.getD_cons_zero, List.getD_cons_succ, Sx.av_val, Sx.av_valAt, Sx.av_fxAt, Sx.av_bsAt, Sx.av_ownAt, Sx.av_fxOwn, Sx.av_at, Sx.av_fx, Sx.av_on, Sx.av_fxOn, and_true] at hd; go_simp; exact givx_pure rfl rfl)))
      refine askX_cons (fun vs w1 s hlo hhi hb hst hd hin => ?_) ?_
      · obtain rfl : s = 0 := Nat.le_antisymm hhi hlo
        clear hlo hhi
        have hst : CrSt w base g q d A n c l 0 w1 := hst
        simp only [DepX, Region.binds, SxI, List.getD_cons_zero, List.getD_cons_succ, Sx.av_val, Sx.av_valAt, Sx.av_fxAt, Sx.av_bsAt, Sx.av_ownAt, Sx.av_fxOwn, Sx.av_at, Sx.av_fx, Sx.av_on, Sx.av_fxOn, and_true] at hd
        obtain ⟨P, n0, c0, hv, ho, hne⟩ := hd.1 (by omega)
        have hln := ho.1
        simp only [List.length_nil] at hln
        have hsz := hst.1.size
        have hk := hst.2.1 (by omega)
        refine wanted_yes (by rfl) ?_
        have hsrc := (hk.2.take (s + st) hst3).bs
        rw [HL.out] at hsrc
        refine gives_app (.tmp 19) (.tmp 30) rfl (by exact hv) ho (by exact hd.2) HT.out hsrc (by omega) hsz ?_
        intro A2 c2 w2 o2 g2 hA2
        have hrow : ∀ k, (Value.slice P n0 c0).ownBlock = some k → w.heap.size ≤ k := fun k hk => (ho.ov.row k hk).1
        have hqr : ∀ k, q = some k → k < w.heap.size := fun k hk => (hqlt.out k hk).2.1
        refine givx_fx rfl (Own.belowB ho hbase (by omega) g2) ⟨⟨g2.os.trans hst.1.os, g2.tape.trans hst.1.tape, g2.output.trans hst.1.output, Nat.le_trans hst.1.size g2.size, fun k hk h1 h2 => (g2.block k (by omega) (fun e => by have := hrow k e.symm; omega)).trans (hst.1.block k hk h1 h2)⟩, fun _ => ⟨hk.1.grown g2 (fun e => by have := hrow g e.symm; omega), hk.2.kept g2 (fun a ha e => ?_)⟩, fun h => by omega⟩ ⟨_, _, _, rfl, by simpa using o2, some_of' hne hA2⟩
        have h1 := hrow _ e
        have h2 := hqr a.block (by rw [HQ.out, ha]; rfl)
        omega
      iterate 2 (refine askX_cons (fun vs w1 s hlo hhi hb hst hd hin => ?_) ?_; (focus (clear hlo hhi hst hin; simp only [DepX, Region.binds, SxI, List.getD_cons_zero, List.getD_cons_succ, Sx.av_val, Sx.av_valAt, Sx.av_fxAt, Sx.av_bsAt, Sx.av_ownAt, Sx.av_fxOwn, Sx.av_at, Sx.av_fx, Sx.av_on, Sx.av_fxOn, and_true] at hd; go_simp; exact givx_pure rfl rfl)))
      refine askX_cons (fun vs w1 s hlo hhi hb hst hd hin => ?_) ?_
      · obtain rfl : s = 1 := Nat.le_antisymm hhi hlo
        clear hlo hhi
        have hst : CrSt w base g q d A n c l 1 w1 := hst
        simp only [DepX, Region.binds, SxI, List.getD_cons_zero, List.getD_cons_succ, Sx.av_val, Sx.av_valAt, Sx.av_fxAt, Sx.av_bsAt, Sx.av_ownAt, Sx.av_fxOwn, Sx.av_at, Sx.av_fx, Sx.av_on, Sx.av_fxOn, and_true] at hd
        obtain ⟨A2, n2, c2, hv, ho2, hne⟩ := hd.2.1 (by omega)
        have h15 := hd.1
        clear hd
        have hk := (hst.2.1 (by omega)).1
        have c0 := hk.cell 0
        have f0 := hk.free 0
        simp only [dCells, List.getElem?_toArray, List.getElem?_cons_zero] at c0
        generalize vs 13 = v13 at *
        subst hv
        go_simp
        exact givx_fx rfl ((Below.refl base w1).setCell hg _) ⟨hst.1.set 0 _, fun h => by omega, fun _ => ⟨A2, n2, c2, hk.set 0 _, ho2.setR hk 0 _, hne⟩⟩ rfl
      exact askX_nil
    case hend1 =>
      intro vs w1 hb hst hd
      simp only [AllX, SxI, List.getD_cons_zero, List.getD_cons_succ, Sx.av_val, Sx.av_valAt, Sx.av_fxAt, Sx.av_bsAt, Sx.av_ownAt, Sx.av_fxOwn, Sx.av_at, Sx.av_fx, Sx.av_on, Sx.av_fxOn, and_true, Nat.reduceAdd] at hd
      have hlast := hd.2.2.2.2.2.2.2.2.2.2.2.2.2.2.2.2
      clear hd
      obtain ⟨t0, _, h3⟩ := hst
      obtain ⟨A2, n2, c2, k0, o0, hne⟩ := h3 rfl
      clear hlast h3
      obtain rfl : n2 = s + st := by have := o0.1; have := HT.out; omega
      have hcells0 : (dCells d A n c).setIfInBounds 0 (.slice A2 (s + st) c2) = #[.slice A2 (s + st) c2, .int .i64 (d.syn : Int), .bool d.down, .bool d.doomed, .int .i64 d.keep] := by simp [dCells]
      rw [hcells0] at k0
      have c0 := k0.cell 0
      have c1 := k0.cell 1
      have c2' := k0.cell 2
      have c3 := k0.cell 3
      have c4 := k0.cell 4
      have f1 := k0.free 1
      have f2 := k0.free 2
      have f3 := k0.free 3
      have f4 := k0.free 4
      simp only [List.getElem?_toArray, List.getElem?_cons_zero, List.getElem?_cons_succ] at c0 c1 c2' c3 c4
      have hgl1 := k0.lt
      have K0 := Lib.hid k0
      have O0 := Lib.hid o0
      have T0 := Lib.hid t0
      clear k0 o0 t0 hcells0
      go_wp2_with fail
      have e1 : ((s + st : Nat) : Int) = (s : Int) + (st : Int) := by omega
      have k0 := K0.out
      have k2 := k0.set 1 (.int .i64 ((s : Int) + (st : Int)))
      have k3 := k2.set 2 (.bool true)
      have k4 := k3.set 3 (.bool false)
      have k5 := k4.set 4 (.int .i64 0)
      have o0 := O0.out
      have o5 := (((o0.setR k0 1 (.int .i64 ((s : Int) + (st : Int)))).setR k2 2 (.bool true)).setR k3 3 (.bool false)).setR k4 4 (.int .i64 0)
      have t5 := (((T0.out.set 1 (.int .i64 ((s : Int) + (st : Int)))).set 2 (.bool true)).set 3 (.bool false)).set 4 (.int .i64 0)
      have hcells : ((((#[.slice A2 (s + st) c2, .int .i64 (d.syn : Int), .bool d.down, .bool d.doomed, .int .i64 d.keep] : Array Value).setIfInBounds 1 (.int .i64 ((s : Int) + (st : Int)))).setIfInBounds 2 (.bool true)).setIfInBounds 3 (.bool false)).setIfInBounds 4 (.int .i64 0) = dCells ⟨l, s + st, true, false, 0⟩ A2 (s + st) c2 := by
        simp [dCells]
      rw [hcells] at k5
      have hfin : Rk ((((w1.setCell ⟨g, 1, none⟩ (.int .i64 ((s : Int) + (st : Int)))).setCell ⟨g, 2, none⟩ (.bool true)).setCell ⟨g, 3, none⟩ (.bool false)).setCell ⟨g, 4, none⟩ (.int .i64 0)) base g (Value.slice A2 (s + st) c2).ownBlock (dCrash d k) := by
        rw [HC.out]
        exact ⟨hg, by have := HOK.out; rw [HC.out] at this; exact this, A2, s + st, c2, rfl, k5, o5.mono hbase⟩
      have hmv : Moved w q (Value.slice A2 (s + st) c2).ownBlock := moved_new o0 hne
      clear k0 k2 k3 k4 k5 o0 o5 hcells
      go_end0
      exact ⟨_, rfl, hfin, t5, hmv⟩
set_option maxRecDepth 10000 in
set_option maxHeartbeats 800000 in
theorem rsync_any (base g : Nat) (q : Option Nat) (d : Dsk) (w : World) (hd : Rk w base g q d) (hbase : base ≤ w.heap.size) :
    Calls Try.prog 43 #[.pointer (some ⟨g, 0, none⟩)] w (RDoes w base g q (dSync d).1 (.int .i64 (dSync d).2)) := by
  have hok2 := hd.2.1.sync
  obtain ⟨hg, hok, A, n, c, hq, hb, ho⟩ := id hd
  have hn := ho.1
  have c0 := hb.cell 0
  have c2 := hb.cell 2
  have c3 := hb.cell 3
  have c4 := hb.cell 4
  simp only [dCells, List.getElem?_toArray, List.getElem?_cons_zero, List.getElem?_cons_succ] at c0 c2 c3 c4
  cases hdn : d.down
  · rw [hdn] at c2
    cases hdm : d.doomed
    · rw [hdm] at c3
      have HU := Lib.hid (show dSync d = ({ d with syn := d.b.length }, 0) by unfold dSync; rw [if_neg (by simp [hdn]), if_neg (by simp [hdm])])
      have c1 := hb.cell 1
      have f1 := hb.free 1
      simp only [dCells, List.getElem?_toArray, List.getElem?_cons_zero, List.getElem?_cons_succ] at c1
      have hb2 := hb.set 1 (.int .i64 (n : Int))
      have ho2 := ho.setR hb 1 (.int .i64 (n : Int))
      have hfin : Rk (w.setCell ⟨g, 1, none⟩ (.int .i64 (n : Int))) base g q (dSync d).1 := by
        rw [HU.out] at hok2 ⊢
        exact ⟨hg, hok2, A, n, c, hq, by rw [← hn] at hb2; rw [← hn]; exact hb2, ho2⟩
      clear hdn hdm hn hb2 ho2
      go_enter Try.func43, Try.ntmps43
      go_wp2_with fail
      go_ret
      exact ⟨q, by rw [HU.out]; rfl, hfin, (Touch.refl w g q).set 1 _, .inl rfl⟩
    · rw [hdm] at c3
      have HU := Lib.hid (show dSync d = (dCrash d d.keep, 30) by unfold dSync; rw [if_neg (by simp [hdn]), if_pos hdm])
      clear hdn hdm hn hb ho hok
      go_enter Try.func43, Try.ntmps43
      go_wp2_with fail
      refine (rcrash_any base g q d d.keep _ hd hbase).mono ?_
      rintro e w2 ⟨q2, rfl, d2, t2, m2⟩
      go_wp2_with fail
      go_ret
      exact ⟨q2, by rw [HU.out]; rfl, by rw [HU.out]; exact d2, t2, m2⟩
  · rw [hdn] at c2
    have HU := Lib.hid (show dSync d = (d, 30) by unfold dSync; rw [if_pos hdn])
    clear hdn hn
    go_enter Try.func43, Try.ntmps43
    go_wp2_with fail
    go_ret
    exact ⟨q, by rw [HU.out]; rfl, by rw [HU.out]; exact hd, Touch.refl _ _ _, .inl rfl⟩

end Go.Proofs.Ytcgkoojegopfnaa
