/- The walks of store.floor, vote, entry and cut. -/
import Derived.Test.YtcgkoojegopfnaaStoS
import Derived.Test.YtcgkoojegopfnaaStoTake
import Derived.BigQuiet
import Derived.RegionTactic
import Derived.ChangeAlike
import Derived.Deep.QuietTactic
namespace Go.Proofs.Ytcgkoojegopfnaa
open Go.RowKit
set_option linter.unusedSimpArgs false
set_option linter.unusedVariables false

/-- What a record does to a node's state in block g. -/
def StepF (w : World) (base g : Nat) (F : Nat → Prop) (s : Stb) (r : Rcd) (e : Ending) (w' : World) : Prop :=
  e = .returned (.bool (stFit s r)) ∧ Below base w w' ∧ (stFit s r = true → ∃ A n c, Blk w' g TSt (stC (stNext s r) A n c) ∧ StF w' (fun b => F b ∨ base ≤ b) (stNext s r) A n c)
theorem StF.or {w : World} {F : Nat → Prop} {base : Nat} {s : Stb} {A : Option Addr} {n c : Nat} (h : StF w F s A n c) : StF w (fun b => F b ∨ base ≤ b) s A n c := ⟨h.1, h.2.1, h.2.2.1, h.2.2.2.mono fun b hf _ => .inl hf⟩
theorem StF.step {w w' : World} {F : Nat → Prop} {s : Stb} {A : Option Addr} {n c : Nat} (h : StF w F s A n c) (hb : Below w.heap.size w w') : StF w' F s A n c := ⟨h.1, h.2.1, h.2.2.1, h.2.2.2.step hb⟩
theorem StF.setT {w : World} {F : Nat → Prop} {s : Stb} {A : Option Addr} {n c g : Nat} {t : TypeId} {cs : Array Value} (h : StF w F s A n c) (hF : ¬ F g) (i : Nat) (u : Value) : StF (w.setCell ⟨g, i, none⟩ u) F s A n c :=
  ⟨h.1, h.2.1, h.2.2.1, h.2.2.2.keep (by simp) fun b hf _ => Below.heap_setCell w ⟨g, i, none⟩ u b (fun e => hF (by rw [show g = b from e.symm]; exact hf))⟩

set_option maxRecDepth 100000 in
set_option maxHeartbeats 1600000 in
theorem floor_any (base g : Nat) (F : Nat → Prop) (s : Stb) (A : Option Addr) (n c : Nat) (r : Rcd) (X : Option Addr) (m cx : Nat) (w : World) (hk : r.kind = 1) (hg : base ≤ g) (hbase : base ≤ w.heap.size) (hb : Blk w g TSt (stC s A n c)) (hs : StF w F s A n c) (hF : ¬ F g) :
    Calls Try.prog 58 #[.pointer (some ⟨g, 0, none⟩), .agg #[.int .i64 r.kind, .int .i64 r.a, .int .i64 r.b, .slice X m cx]] w (StepF w base g F s r) := by
  have hb1 := hb.alloc (.cells #[.int .i64 r.kind, .int .i64 r.a, .int .i64 r.b, .slice X m cx] TRec)
  have kr := Blk.new w TRec #[.int .i64 r.kind, .int .i64 r.a, .int .i64 r.b, .slice X m cx]
  have bal := (Below.refl base w).alloc hbase (.cells #[.int .i64 r.kind, .int .i64 r.a, .int .i64 r.b, .slice X m cx] TRec)
  have bal2 := (Below.refl w.heap.size w).alloc (Nat.le_refl _) (.cells #[.int .i64 r.kind, .int .i64 r.a, .int .i64 r.b, .slice X m cx] TRec)
  have hgl := hb.lt
  have c0 := hb.cell 0
  have c1 := hb.cell 1
  have c2 := hb.cell 2
  have c3 := hb.cell 3
  have f0 := hb.free 0
  have f1 := hb.free 1
  have f2 := hb.free 2
  have f3 := hb.free 3
  simp only [stC, List.getElem?_toArray, List.getElem?_cons_zero, List.getElem?_cons_succ] at c0 c1 c2 c3
  have hfit : stFit s r = decide (s.floor ≤ r.a) := by unfold stFit; rw [if_pos hk]
  have hnx : stNext s r = { s with floor := r.a } := by unfold stNext; rw [if_pos hk]
  have HFIT := Lib.hid hfit
  have HNX := Lib.hid hnx
  clear hfit hnx hk
  by_cases hlt : r.a < s.floor
  · go_enter Try.func58, Try.ntmps58
    go_wp2_with fail
    go_quiet (fail)
    go_wp2_with fail
    go_ret
    have hno : stFit s r = false := by rw [HFIT.out]; simp; omega
    exact ⟨by rw [hno]; rfl, below_drewN bal _, fun h => by rw [hno] at h; cases h⟩
  · go_enter Try.func58, Try.ntmps58
    go_wp2_with fail
    go_quiet (fail)
    go_wp2_with fail
    go_ret
    have hyes : stFit s r = true := by rw [HFIT.out]; simp; omega
    refine ⟨by rw [hyes]; rfl, (below_drewN bal _).setCell hg _, fun _ => ?_⟩
    rw [HNX.out]
    have hb2 : Blk ((w.alloc (.cells #[.int .i64 r.kind, .int .i64 r.a, .int .i64 r.b, .slice X m cx] TRec)).drewN nq) g TSt (stC s A n c) := hb1
    have hs2 : StF ((w.alloc (.cells #[.int .i64 r.kind, .int .i64 r.a, .int .i64 r.b, .slice X m cx] TRec)).drewN nq) F s A n c := (hs.step bal2).step (below_drewN (Below.refl _ _) _)
    exact ⟨A, n, c, hb2.set 0 (.int .i64 r.a), (hs2.setT (t := TSt) (cs := #[]) hF 0 (.int .i64 r.a)).or⟩

set_option maxRecDepth 100000 in
set_option maxHeartbeats 1600000 in
theorem vote_any (base g : Nat) (F : Nat → Prop) (s : Stb) (A : Option Addr) (n c : Nat) (r : Rcd) (X : Option Addr) (m cx : Nat) (w : World) (hk : r.kind = 2) (hg : base ≤ g) (hbase : base ≤ w.heap.size) (hb : Blk w g TSt (stC s A n c)) (hs : StF w F s A n c) (hF : ¬ F g) :
    Calls Try.prog 59 #[.pointer (some ⟨g, 0, none⟩), .agg #[.int .i64 r.kind, .int .i64 r.a, .int .i64 r.b, .slice X m cx]] w (StepF w base g F s r) := by
  have hb1 := hb.alloc (.cells #[.int .i64 r.kind, .int .i64 r.a, .int .i64 r.b, .slice X m cx] TRec)
  have kr := Blk.new w TRec #[.int .i64 r.kind, .int .i64 r.a, .int .i64 r.b, .slice X m cx]
  have bal := (Below.refl base w).alloc hbase (.cells #[.int .i64 r.kind, .int .i64 r.a, .int .i64 r.b, .slice X m cx] TRec)
  have bal2 := (Below.refl w.heap.size w).alloc (Nat.le_refl _) (.cells #[.int .i64 r.kind, .int .i64 r.a, .int .i64 r.b, .slice X m cx] TRec)
  have hgl := hb.lt
  have c0 := hb.cell 0
  have c1 := hb.cell 1
  have c2 := hb.cell 2
  have c3 := hb.cell 3
  have f0 := hb.free 0
  have f1 := hb.free 1
  have f2 := hb.free 2
  have f3 := hb.free 3
  simp only [stC, List.getElem?_toArray, List.getElem?_cons_zero, List.getElem?_cons_succ] at c0 c1 c2 c3
  have hfit : stFit s r = !(decide (r.a < s.term) || (r.a == s.term && s.vote != 0 && s.vote != r.b)) := by unfold stFit; rw [if_neg (by omega), if_pos hk]
  have hnx : stNext s r = { s with term := r.a, vote := r.b } := by unfold stNext; rw [if_neg (by omega), if_pos hk]
  have HFIT := Lib.hid hfit
  have HNX := Lib.hid hnx
  clear hfit hnx hk
  obtain ⟨bad, hbad⟩ : ∃ bad, (!stFit s r) = bad := ⟨_, rfl⟩
  have HB := Lib.hid hbad
  clear hbad
  go_enter Try.func59, Try.ntmps59
  go_upto_region 1 with (fail)
  go_cut [36] (fun v wx => v = .bool bad ∧ ∃ k, wx = (w.alloc (.cells #[.int .i64 r.kind, .int .i64 r.a, .int .i64 r.b, .slice X m cx] TRec)).drewN k)
  case first =>
    by_cases t1 : r.a < s.term
    · obtain rfl : bad = true := by rw [← HB.out, HFIT.out]; simp [t1]
      go_quiet (fail)
      go_wp2_with fail
      go_meet
      exact ⟨rfl, nq, rfl⟩
    · by_cases t2 : r.a = s.term
      · have e2 : (r.a == s.term) = true := by simpa using t2
        by_cases t3 : s.vote = 0
        · have e3 : (s.vote != 0) = false := by simpa using t3
          obtain rfl : bad = false := by rw [← HB.out, HFIT.out, e3]; simp [t1]
          clear t2 t3
          go_quiet (fail)
          go_wp2_with fail
          go_meet
          exact ⟨rfl, nq, rfl⟩
        · have e3 : (s.vote != 0) = true := by simpa using t3
          by_cases t4 : s.vote = r.b
          · have e4 : (s.vote != r.b) = false := by simpa using t4
            obtain rfl : bad = false := by rw [← HB.out, HFIT.out, e4]; simp [t1]
            clear t2 t3 t4
            go_quiet (fail)
            go_wp2_with fail
            go_meet
            exact ⟨rfl, nq, rfl⟩
          · have e4 : (s.vote != r.b) = true := by simpa using t4
            obtain rfl : bad = true := by rw [← HB.out, HFIT.out, e2, e3, e4]; simp
            clear t2 t3 t4
            go_quiet (fail)
            go_wp2_with fail
            go_meet
            exact ⟨rfl, nq, rfl⟩
      · have e2 : (r.a == s.term) = false := by simpa using t2
        obtain rfl : bad = false := by rw [← HB.out, HFIT.out, e2]; simp [t1]
        clear t2
        go_quiet (fail)
        go_wp2_with fail
        go_meet
        exact ⟨rfl, nq, rfl⟩
  case rest =>
    obtain ⟨rfl, k, rfl⟩ := hcut
    cases bad
    · have hyes : stFit s r = true := by have := HB.out; simpa using this
      have HY := Lib.hid hyes
      have hb2 : Blk ((w.alloc (.cells #[.int .i64 r.kind, .int .i64 r.a, .int .i64 r.b, .slice X m cx] TRec)).drewN k) g TSt (stC s A n c) := hb1
      have kr2 : Blk ((w.alloc (.cells #[.int .i64 r.kind, .int .i64 r.a, .int .i64 r.b, .slice X m cx] TRec)).drewN k) w.heap.size TRec #[.int .i64 r.kind, .int .i64 r.a, .int .i64 r.b, .slice X m cx] := kr
      have hs2 : StF ((w.alloc (.cells #[.int .i64 r.kind, .int .i64 r.a, .int .i64 r.b, .slice X m cx] TRec)).drewN k) F s A n c := (hs.step bal2).step (below_drewN (Below.refl _ _) _)
      have bal3 := below_drewN bal k
      have hsz3 : w.heap.size ≤ ((w.alloc (.cells #[.int .i64 r.kind, .int .i64 r.a, .int .i64 r.b, .slice X m cx] TRec)).drewN k).heap.size := bal2.size
      clear hyes hb1 kr bal bal2 hs
      generalize (w.alloc (.cells #[.int .i64 r.kind, .int .i64 r.a, .int .i64 r.b, .slice X m cx] TRec)).drewN k = w2 at *
      go_wp2_with fail
      refine wp_region_invX (B := base) (by kernel_rfl) ?hB3 [.val (.pointer (some ⟨g, 0, none⟩)), .val (.pointer (some ⟨g, 0, none⟩)), .val (.pointer (some ⟨w.heap.size, 1, none⟩)), .val (.int .i64 r.a), .val (.pointer (some ⟨w.heap.size, 2, none⟩)), .val (.int .i64 r.b), .val (.pointer (some ⟨g, 0, none⟩)), .val (.pointer (some ⟨g, 1, none⟩)), .fxAt 0 undef, .val (.pointer (some ⟨g, 0, none⟩)), .val (.pointer (some ⟨g, 2, none⟩)), .fxAt 1 undef] [8, 11] (fun j wx => Blk wx w.heap.size TRec #[.int .i64 r.kind, .int .i64 r.a, .int .i64 r.b, .slice X m cx] ∧ StF wx F s A n c ∧ Blk wx g TSt (match j with | 0 => stC s A n c | 1 => stC { s with term := r.a } A n c | _ => stC { s with term := r.a, vote := r.b } A n c)) (T := ?T3) (by kernel_rfl) ?hSt3 ?h03 ?hT3 ?hask3 ?hend3
      case hB3 =>
        omega
      case hSt3 =>
        exact fun j x y hb h => ⟨h.1.below hb h.1.lt, h.2.1.step hb, h.2.2.below hb h.2.2.lt⟩
      case h03 =>
        exact ⟨kr2, hs2, hb2⟩
      case hT3 =>
        intro vs
        simp only [fill, Act.put, List.setIfInBounds_toArray, List.set_cons_succ, List.set_cons_zero, Nat.reduceAdd]
        exact rfl
      case hask3 =>
        iterate 3 (refine askX_cons (fun vs w1 s hlo hhi hb hst hd hin => ?_) ?_; (focus (clear hlo hhi hst hin; simp only [DepX, Region.binds, SxI, List.getD_cons_zero, List.getD_cons_succ, Sx.av_val, Sx.av_valAt, Sx.av_fxAt, Sx.av_bsAt, Sx.av_ownAt, Sx.av_fxOwn, Sx.av_at, Sx.av_fx, Sx.av_on, Sx.av_fxOn, and_true] at hd; go_simp; exact givx_pure rfl rfl)))
        refine askX_cons (fun vs w1 s hlo hhi hb hst hd hin => ?_) ?_
        · have k0 : Blk w1 w.heap.size TRec _ := hst.1
          clear hlo hhi hst hin
          simp only [DepX, Region.binds, SxI, List.getD_cons_zero, List.getD_cons_succ, Sx.av_val, Sx.av_valAt, Sx.av_fxAt, Sx.av_bsAt, Sx.av_ownAt, Sx.av_fxOwn, Sx.av_at, Sx.av_fx, Sx.av_on, Sx.av_fxOn, and_true] at hd
          have y0 := k0.cell 1
          simp only [List.getElem?_toArray, List.getElem?_cons_zero, List.getElem?_cons_succ] at y0
          go_simp
          exact givx_pure rfl rfl
        refine askX_cons (fun vs w1 s hlo hhi hb hst hd hin => ?_) ?_; (focus (clear hlo hhi hst hin; simp only [DepX, Region.binds, SxI, List.getD_cons_zero, List.getD_cons_succ, Sx.av_val, Sx.av_valAt, Sx.av_fxAt, Sx.av_bsAt, Sx.av_ownAt, Sx.av_fxOwn, Sx.av_at, Sx.av_fx, Sx.av_on, Sx.av_fxOn, and_true] at hd; go_simp; exact givx_pure rfl rfl))
        refine askX_cons (fun vs w1 s hlo hhi hb hst hd hin => ?_) ?_
        · have k0 : Blk w1 w.heap.size TRec _ := hst.1
          clear hlo hhi hst hin
          simp only [DepX, Region.binds, SxI, List.getD_cons_zero, List.getD_cons_succ, Sx.av_val, Sx.av_valAt, Sx.av_fxAt, Sx.av_bsAt, Sx.av_ownAt, Sx.av_fxOwn, Sx.av_at, Sx.av_fx, Sx.av_on, Sx.av_fxOn, and_true] at hd
          have y0 := k0.cell 2
          simp only [List.getElem?_toArray, List.getElem?_cons_zero, List.getElem?_cons_succ] at y0
          go_simp
          exact givx_pure rfl rfl
        iterate 2 (refine askX_cons (fun vs w1 s hlo hhi hb hst hd hin => ?_) ?_; (focus (clear hlo hhi hst hin; simp only [DepX, Region.binds, SxI, List.getD_cons_zero, List.getD_cons_succ, Sx.av_val, Sx.av_valAt, Sx.av_fxAt, Sx.av_bsAt, Sx.av_ownAt, Sx.av_fxOwn, Sx.av_at, Sx.av_fx, Sx.av_on, Sx.av_fxOn, and_true] at hd; go_simp; exact givx_pure rfl rfl)))
        refine askX_cons (fun vs w1 s hlo hhi hb hst hd hin => ?_) ?_
        · obtain rfl : s = 0 := Nat.le_antisymm hhi hlo
          clear hlo hhi
          have hst : (fun j wx => Blk wx w.heap.size TRec #[.int .i64 r.kind, .int .i64 r.a, .int .i64 r.b, .slice X m cx] ∧ StF wx F s A n c ∧ Blk wx g TSt (match j with | 0 => stC s A n c | 1 => stC { s with term := r.a } A n c | _ => stC { s with term := r.a, vote := r.b } A n c)) 0 w1 := hst
          simp only [DepX, Region.binds, SxI, List.getD_cons_zero, List.getD_cons_succ, Sx.av_val, Sx.av_valAt, Sx.av_fxAt, Sx.av_bsAt, Sx.av_ownAt, Sx.av_fxOwn, Sx.av_at, Sx.av_fx, Sx.av_on, Sx.av_fxOn, and_true] at hd
          have hk1 : Blk w1 g TSt _ := hst.2.2
          have y0 := hk1.cell 1
          have z0 := hk1.free 1
          simp only [stC, List.getElem?_toArray, List.getElem?_cons_zero, List.getElem?_cons_succ] at y0
          go_simp
          have hk2 := hk1.set 1 (.int .i64 r.a)
          exact givx_skip rfl ((Below.refl base w1).setCell hg _) ⟨hst.1.far (by show w.heap.size ≠ g; omega) _, hst.2.1.setT (t := TSt) (cs := #[]) hF _ _, hk2⟩ rfl
        iterate 2 (refine askX_cons (fun vs w1 s hlo hhi hb hst hd hin => ?_) ?_; (focus (clear hlo hhi hst hin; simp only [DepX, Region.binds, SxI, List.getD_cons_zero, List.getD_cons_succ, Sx.av_val, Sx.av_valAt, Sx.av_fxAt, Sx.av_bsAt, Sx.av_ownAt, Sx.av_fxOwn, Sx.av_at, Sx.av_fx, Sx.av_on, Sx.av_fxOn, and_true] at hd; go_simp; exact givx_pure rfl rfl)))
        refine askX_cons (fun vs w1 s hlo hhi hb hst hd hin => ?_) ?_
        · obtain rfl : s = 1 := Nat.le_antisymm hhi hlo
          clear hlo hhi
          have hst : (fun j wx => Blk wx w.heap.size TRec #[.int .i64 r.kind, .int .i64 r.a, .int .i64 r.b, .slice X m cx] ∧ StF wx F s A n c ∧ Blk wx g TSt (match j with | 0 => stC s A n c | 1 => stC { s with term := r.a } A n c | _ => stC { s with term := r.a, vote := r.b } A n c)) 1 w1 := hst
          simp only [DepX, Region.binds, SxI, List.getD_cons_zero, List.getD_cons_succ, Sx.av_val, Sx.av_valAt, Sx.av_fxAt, Sx.av_bsAt, Sx.av_ownAt, Sx.av_fxOwn, Sx.av_at, Sx.av_fx, Sx.av_on, Sx.av_fxOn, and_true] at hd
          have hk1 : Blk w1 g TSt _ := hst.2.2
          have y0 := hk1.cell 2
          have z0 := hk1.free 2
          simp only [stC, List.getElem?_toArray, List.getElem?_cons_zero, List.getElem?_cons_succ] at y0
          go_simp
          have hk2 := hk1.set 2 (.int .i64 r.b)
          exact givx_skip rfl ((Below.refl base w1).setCell hg _) ⟨hst.1.far (by show w.heap.size ≠ g; omega) _, hst.2.1.setT (t := TSt) (cs := #[]) hF _ _, hk2⟩ rfl
        exact askX_nil
      case hend3 =>
        intro vs w1 hb hst hd
        simp only [AllX, SxI, List.getD_cons_zero, List.getD_cons_succ, Sx.av_val, Sx.av_valAt, Sx.av_fxAt, Sx.av_bsAt, Sx.av_ownAt, Sx.av_fxOwn, Sx.av_at, Sx.av_fx, Sx.av_on, Sx.av_fxOn, and_true, Nat.reduceAdd] at hd
        have hlast := hd.2.2.2.2.2.2.2.2.2.2.2
        clear hd
        have b5 := bal3.trans hb
        have hk5 : Blk w1 g TSt (stC { s with term := r.a, vote := r.b } A n c) := hst.2.2
        have hs5 : StF w1 F s A n c := hst.2.1
        clear hst hb
        go_wp2_with fail
        go_ret
        refine ⟨by rw [HY.out]; rfl, b5, fun _ => ?_⟩
        rw [HNX.out]
        exact ⟨A, n, c, hk5, hs5.or⟩
    · have hno : stFit s r = false := by have := HB.out; simpa using this
      have HNO := Lib.hid hno
      clear hno
      go_wp2_with fail
      go_ret
      exact ⟨by rw [HNO.out]; rfl, below_drewN bal _, fun h => by rw [HNO.out] at h; cases h⟩

set_option maxRecDepth 100000 in
set_option maxHeartbeats 1600000 in
theorem cut_any15 (base g : Nat) (F : Nat → Prop) (s : Stb) (A : Option Addr) (n c : Nat) (r : Rcd) (X : Option Addr) (m cx : Nat) (w : World) (hk : r.kind = 4) (hg : base ≤ g) (hbase : base ≤ w.heap.size) (hb : Blk w g TSt (stC s A n c)) (hs : StF w F s A n c) (hF : ¬ F g) (hra : 1 ≤ r.a) (hra2 : r.a ≤ 2000000) :
    Calls Try.prog 61 #[.pointer (some ⟨g, 0, none⟩), .agg #[.int .i64 r.kind, .int .i64 r.a, .int .i64 r.b, .slice X m cx]] w (StepF w base g F s r) := by
  have hb1 := hb.alloc (.cells #[.int .i64 r.kind, .int .i64 r.a, .int .i64 r.b, .slice X m cx] TRec)
  have kr := Blk.new w TRec #[.int .i64 r.kind, .int .i64 r.a, .int .i64 r.b, .slice X m cx]
  have bal := (Below.refl base w).alloc hbase (.cells #[.int .i64 r.kind, .int .i64 r.a, .int .i64 r.b, .slice X m cx] TRec)
  have bal2 := (Below.refl w.heap.size w).alloc (Nat.le_refl _) (.cells #[.int .i64 r.kind, .int .i64 r.a, .int .i64 r.b, .slice X m cx] TRec)
  have hgl := hb.lt
  have c0 := hb.cell 0
  have c1 := hb.cell 1
  have c2 := hb.cell 2
  have c3 := hb.cell 3
  have f0 := hb.free 0
  have f1 := hb.free 1
  have f2 := hb.free 2
  have f3 := hb.free 3
  simp only [stC, List.getElem?_toArray, List.getElem?_cons_zero, List.getElem?_cons_succ] at c0 c1 c2 c3
  have hln := hs.1
  have hnc := hs.2.1
  have hcm := hs.2.2.1
  unfold maxLen at hcm
  have hfit : stFit s r = decide (r.a ≤ (n : Int)) := by unfold stFit; rw [if_neg (by omega), if_neg (by omega), if_neg (by omega), hln]
  have hnx : stNext s r = { s with log := s.log.take (r.a - 1).toNat } := by unfold stNext; rw [if_neg (by omega), if_neg (by omega), if_neg (by omega)]
  have HFIT := Lib.hid hfit
  have HNX := Lib.hid hnx
  have HLN := Lib.hid hln
  clear hfit hnx hk hln
  by_cases hlt : (n : Int) < r.a
  · go_enter Try.func61, Try.ntmps61
    go_wp2_with fail
    go_quiet (fail)
    go_wp2_with fail
    go_ret
    have hno : stFit s r = false := by rw [HFIT.out]; simp; omega
    exact ⟨by rw [hno]; rfl, below_drewN bal _, fun h => by rw [hno] at h; cases h⟩
  · have hyes : stFit s r = true := by rw [HFIT.out]; simp; omega
    obtain ⟨k, hka⟩ : ∃ k : Nat, r.a - 1 = (k : Int) := ⟨(r.a - 1).toNat, by omega⟩
    have hkn : k ≤ n := by omega
    have hkc : (k : Int) ≤ (c : Int) := by omega
    have hk0 : (0 : Int) ≤ (k : Int) := by omega
    have hw : IntKind.i64.wrap (r.a - 1) = (k : Int) := by rw [hka]; exact IntWalk.i64_in _ (by omega)
    have HNX2 := Lib.hid (show stNext s r = { s with log := s.log.take k } by rw [HNX.out, hka]; rfl)
    have HY := Lib.hid hyes
    clear hyes hka
    go_enter Try.func61, Try.ntmps61
    go_wp2_with fail
    go_quiet (fail)
    go_wp2_with fail
    have hb2 : Blk ((w.alloc (.cells #[.int .i64 r.kind, .int .i64 r.a, .int .i64 r.b, .slice X m cx] TRec)).drewN nq) g TSt (stC s A n c) := hb1
    have kr2 : Blk ((w.alloc (.cells #[.int .i64 r.kind, .int .i64 r.a, .int .i64 r.b, .slice X m cx] TRec)).drewN nq) w.heap.size TRec #[.int .i64 r.kind, .int .i64 r.a, .int .i64 r.b, .slice X m cx] := kr
    have hs2 : StF ((w.alloc (.cells #[.int .i64 r.kind, .int .i64 r.a, .int .i64 r.b, .slice X m cx] TRec)).drewN nq) F s A n c := (hs.step bal2).step (below_drewN (Below.refl _ _) _)
    have bal3 := below_drewN bal nq
    have hsz3 : w.heap.size ≤ ((w.alloc (.cells #[.int .i64 r.kind, .int .i64 r.a, .int .i64 r.b, .slice X m cx] TRec)).drewN nq).heap.size := bal2.size
    clear hb1 kr bal bal2 hs c0 c1 c2 c3 f0 f1 f2 f3
    generalize (w.alloc (.cells #[.int .i64 r.kind, .int .i64 r.a, .int .i64 r.b, .slice X m cx] TRec)).drewN nq = w2 at *
    refine wp_region_invX (B := base) (by kernel_rfl) ?hB3 [.val (.pointer (some ⟨g, 0, none⟩)), .val (.pointer (some ⟨g, 0, none⟩)), .val (.pointer (some ⟨g, 0, none⟩)), .val (.pointer (some ⟨g, 3, none⟩)), .valAt 0 0 (.slice A n c), .val (.pointer (some ⟨w.heap.size, 1, none⟩)), .val (.int .i64 r.a), .val (.int .i64 (k : Nat)), .val (.slice A k c), .val (.pointer (some ⟨g, 0, none⟩)), .val (.pointer (some ⟨g, 3, none⟩)), .fxAt 0 undef] [11] (fun j wx => Blk wx w.heap.size TRec #[.int .i64 r.kind, .int .i64 r.a, .int .i64 r.b, .slice X m cx] ∧ StF wx F s A n c ∧ Blk wx g TSt (match j with | 0 => stC s A n c | _ => stC s A k c)) (T := ?T3) (by kernel_rfl) ?hSt3 ?h03 ?hT3 ?hask3 ?hend3
    case hB3 =>
      omega
    case hSt3 =>
      exact fun j x y hb h => ⟨h.1.below hb h.1.lt, h.2.1.step hb, h.2.2.below hb h.2.2.lt⟩
    case h03 =>
      exact ⟨kr2, hs2, hb2⟩
    case hT3 =>
      intro vs
      simp only [fill, Act.put, List.setIfInBounds_toArray, List.set_cons_succ, List.set_cons_zero, Nat.reduceAdd]
      exact rfl
    case hask3 =>
      iterate 4 (refine askX_cons (fun vs w1 s hlo hhi hb hst hd hin => ?_) ?_; (focus (clear hlo hhi hst hin; simp only [DepX, Region.binds, SxI, List.getD_cons_zero, List.getD_cons_succ, Sx.av_val, Sx.av_valAt, Sx.av_fxAt, Sx.av_bsAt, Sx.av_ownAt, Sx.av_fxOwn, Sx.av_at, Sx.av_fx, Sx.av_on, Sx.av_fxOn, and_true] at hd; go_simp; exact givx_pure rfl rfl)))
      refine askX_cons (fun vs w1 s hlo hhi hb hst hd hin => ?_) ?_
      · obtain rfl : s = 0 := Nat.le_antisymm hhi hlo
        clear hlo hhi
        have hst : (fun j wx => Blk wx w.heap.size TRec #[.int .i64 r.kind, .int .i64 r.a, .int .i64 r.b, .slice X m cx] ∧ StF wx F s A n c ∧ Blk wx g TSt (match j with | 0 => stC s A n c | _ => stC s A k c)) 0 w1 := hst
        simp only [DepX, Region.binds, SxI, List.getD_cons_zero, List.getD_cons_succ, Sx.av_val, Sx.av_valAt, Sx.av_fxAt, Sx.av_bsAt, Sx.av_ownAt, Sx.av_fxOwn, Sx.av_at, Sx.av_fx, Sx.av_on, Sx.av_fxOn, and_true] at hd
        have hk1 : Blk w1 g TSt _ := hst.2.2
        have y0 := hk1.cell 3
        simp only [stC, List.getElem?_toArray, List.getElem?_cons_zero, List.getElem?_cons_succ] at y0
        go_simp
        exact givx_pure rfl rfl
      refine askX_cons (fun vs w1 s hlo hhi hb hst hd hin => ?_) ?_; (focus (clear hlo hhi hst hin; simp only [DepX, Region.binds, SxI, List.getD_cons_zero, List.getD_cons_succ, Sx.av_val, Sx.av_valAt, Sx.av_fxAt, Sx.av_bsAt, Sx.av_ownAt, Sx.av_fxOwn, Sx.av_at, Sx.av_fx, Sx.av_on, Sx.av_fxOn, and_true] at hd; go_simp; exact givx_pure rfl rfl))
      refine askX_cons (fun vs w1 s hlo hhi hb hst hd hin => ?_) ?_
      · have k0 : Blk w1 w.heap.size TRec _ := hst.1
        clear hlo hhi hst hin
        simp only [DepX, Region.binds, SxI, List.getD_cons_zero, List.getD_cons_succ, Sx.av_val, Sx.av_valAt, Sx.av_fxAt, Sx.av_bsAt, Sx.av_ownAt, Sx.av_fxOwn, Sx.av_at, Sx.av_fx, Sx.av_on, Sx.av_fxOn, and_true] at hd
        have y0 := k0.cell 1
        simp only [List.getElem?_toArray, List.getElem?_cons_zero, List.getElem?_cons_succ] at y0
        go_simp
        exact givx_pure rfl rfl
      iterate 4 (refine askX_cons (fun vs w1 s hlo hhi hb hst hd hin => ?_) ?_; (focus (clear hlo hhi hst hin; simp only [DepX, Region.binds, SxI, List.getD_cons_zero, List.getD_cons_succ, Sx.av_val, Sx.av_valAt, Sx.av_fxAt, Sx.av_bsAt, Sx.av_ownAt, Sx.av_fxOwn, Sx.av_at, Sx.av_fx, Sx.av_on, Sx.av_fxOn, and_true] at hd; go_simp; exact givx_pure rfl rfl)))
      refine askX_cons (fun vs w1 s hlo hhi hb hst hd hin => ?_) ?_
      · obtain rfl : s = 0 := Nat.le_antisymm hhi hlo
        clear hlo hhi
        have hst : (fun j wx => Blk wx w.heap.size TRec #[.int .i64 r.kind, .int .i64 r.a, .int .i64 r.b, .slice X m cx] ∧ StF wx F s A n c ∧ Blk wx g TSt (match j with | 0 => stC s A n c | _ => stC s A k c)) 0 w1 := hst
        simp only [DepX, Region.binds, SxI, List.getD_cons_zero, List.getD_cons_succ, Sx.av_val, Sx.av_valAt, Sx.av_fxAt, Sx.av_bsAt, Sx.av_ownAt, Sx.av_fxOwn, Sx.av_at, Sx.av_fx, Sx.av_on, Sx.av_fxOn, and_true] at hd
        have hk1 : Blk w1 g TSt _ := hst.2.2
        have y0 := hk1.cell 3
        have z0 := hk1.free 3
        simp only [stC, List.getElem?_toArray, List.getElem?_cons_zero, List.getElem?_cons_succ] at y0
        go_simp
        have hk2 := hk1.set 3 (.slice A k c)
        exact givx_skip rfl ((Below.refl base w1).setCell hg _) ⟨hst.1.far (by show w.heap.size ≠ g; omega) _, hst.2.1.setT (t := TSt) (cs := #[]) hF _ _, hk2⟩ rfl
      exact askX_nil
    case hend3 =>
      intro vs w1 hb hst hd
      simp only [AllX, SxI, List.getD_cons_zero, List.getD_cons_succ, Sx.av_val, Sx.av_valAt, Sx.av_fxAt, Sx.av_bsAt, Sx.av_ownAt, Sx.av_fxOwn, Sx.av_at, Sx.av_fx, Sx.av_on, Sx.av_fxOn, and_true, Nat.reduceAdd] at hd
      have hlast := hd.2.2.2.2.2.2.2.2.2.2.2
      clear hd
      have b5 := bal3.trans hb
      have hk5 : Blk w1 g TSt (stC s A k c) := hst.2.2
      have hs5 : StF w1 F s A n c := hst.2.1
      clear hst hb hw
      go_wp2_with fail
      go_ret
      refine ⟨by rw [HY.out]; rfl, b5, fun _ => ?_⟩
      rw [HNX2.out]
      exact ⟨A, k, c, hk5, by show (s.log.take k).length = k; rw [List.length_take, HLN.out]; omega, by omega, hs5.2.2.1, (hs5.2.2.2.take k).mono fun b hf _ => .inl hf⟩

/-- append of entries onto a row of the call's own, in a region. -/
theorem gives_appE {G : Value → World → Prop} {ev : Operand → Value} {o : Oper} {w : World} (sl x : Operand)
    (ho : o.op = .call { callee := .builtin .append, args := #[sl, x], argTypes := #[45, 45] })
    {base n c m cx B : Nat} {F : Nat → Prop} {A Ax : Option Addr} {L L2 : List Ent} (hs : ev sl = .slice A n c) (hown : OwnE w base F A n c L) (hx : ev x = .slice Ax m cx)
    {vs2 : List Value} (hm : L2.length = m) (hl2 : vs2.length = m * 2) (hr : Rd w B Ax vs2) (hin : ∀ i y, L2[i]? = some y → EnAt w F vs2 i y) (hone : ∀ u ∈ vs2, u.oneCell' = true)
    (hbytes : n + m ≤ 1000000) (hbase : base ≤ w.heap.size) (hF : ∀ b, F b → b < w.heap.size → some b ≠ (Value.slice A n c).ownBlock)
    (h : ∀ A' c' w', OwnE w' base F A' (n + m) c' (L ++ L2) → w.grownBy w' (Value.slice A n c).ownBlock → (A' = A ∨ A' = some ⟨w.heap.size, 0, none⟩) → G (.slice A' (n + m) c') w') : givesUpon Try.prog G ((execOp ev o).run Try.prog w) := by
  obtain ⟨A', c', w', hrun, h2, h3, h4⟩ := run_appE o.type hown (cx := cx) hm hl2 hr hin hone hbytes hbase hF
  simp [execOp, ho, resolve, invoke, builtin, hs, hx, Result.andThen]
  rw [hrun]
  exact h A' c' w' h2 h3 h4
theorem OwnE.monoF {w : World} {base n c : Nat} {F F' : Nat → Prop} {A : Option Addr} {L : List Ent} (h : OwnE w base F A n c L) (hF : ∀ b, F b → b < w.heap.size → F' b) : OwnE w base F' A n c L := by
  obtain ⟨h1, vs, h2, h3⟩ := h
  exact ⟨h1, vs, h2, fun i x hx => (h3 i x hx).mono hF⟩
theorem OwnE.row {w : World} {base n c : Nat} {F : Nat → Prop} {A : Option Addr} {L : List Ent} (h : OwnE w base F A n c L) : ∀ k, (Value.slice A n c).ownBlock = some k → base ≤ k ∧ k < w.heap.size ∧ ∃ cs, w.heap[k]? = some (.cells cs TE (0, 0)) := by
  obtain ⟨_, vs, ho, _⟩ := h
  exact ho.row
def IsOwnN (base m : Nat) (l : List UInt8) (v : Value) (w : World) : Prop := ∃ A c, v = .slice A m c ∧ Own w base A m c l
theorem isOwnN_step (base m : Nat) (l : List UInt8) : ∀ v w w', Below w.heap.size w w' → IsOwnN base m l v w → IsOwnN base m l v w' := fun _ _ _ hb ⟨A, c, h1, h2⟩ => ⟨A, c, h1, h2.step hb⟩
def IsEntV (base m : Nat) (t : Int) (l : List UInt8) (v : Value) (w : World) : Prop := ∃ A c, v = .agg #[.int .i64 t, .slice A m c] ∧ Own w base A m c l
theorem isEntV_step (base m : Nat) (t : Int) (l : List UInt8) : ∀ v w w', Below w.heap.size w w' → IsEntV base m t l v w → IsEntV base m t l v w' := fun _ _ _ hb ⟨A, c, h1, h2⟩ => ⟨A, c, h1, h2.step hb⟩
def IsEnt1 (base m : Nat) (t : Int) (l : List UInt8) (v : Value) (w : World) : Prop := ∃ k A c, v = .slice (some ⟨k, 0, none⟩) 1 1 ∧ Blk w k TE #[.int .i64 t, .slice A m c] ∧ Own w base A m c l
theorem isEnt1_step (base m : Nat) (t : Int) (l : List UInt8) : ∀ v w w', Below w.heap.size w w' → IsEnt1 base m t l v w → IsEnt1 base m t l v w' := fun _ _ _ hb ⟨k, A, c, h1, h2, h3⟩ => ⟨k, A, c, h1, h2.below hb h2.lt, h3.step hb⟩
def IsRowE (base : Nat) (F : Nat → Prop) (n : Nat) (L : List Ent) (v : Value) (w : World) : Prop := ∃ A c, v = .slice A n c ∧ OwnE w base F A n c L
theorem isRowE_step (base : Nat) (F : Nat → Prop) (n : Nat) (L : List Ent) : ∀ v w w', Below w.heap.size w w' → IsRowE base F n L v w → IsRowE base F n L v w' := fun _ _ _ hb ⟨A, c, h1, h2⟩ => ⟨A, c, h1, h2.step hb⟩

end Go.Proofs.Ytcgkoojegopfnaa
