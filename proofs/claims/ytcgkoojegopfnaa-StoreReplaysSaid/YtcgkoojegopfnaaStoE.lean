/- The walk of store.entry. -/
import Derived.Test.YtcgkoojegopfnaaStoF
import Derived.Deep.DeepCutAuto
namespace Go.Proofs.Ytcgkoojegopfnaa
open Go.RowKit
set_option linter.unusedSimpArgs false
set_option linter.unusedVariables false

set_option maxRecDepth 100000 in
set_option maxHeartbeats 3200000 in
theorem entry_any (base g : Nat) (F : Nat → Prop) (s : Stb) (A : Option Addr) (n c : Nat) (r : Rcd) (X : Option Addr) (m cx : Nat) (w : World) (hk : r.kind = 3) (hg : base ≤ g) (hbase : base ≤ w.heap.size) (hb : Blk w g TSt (stC s A n c)) (ho : OwnE w base F A n c s.log) (hF : ∀ b, F b → b < base)
    (hn : n ≤ 1000) (hm : r.x.length = m) (hmm : m ≤ 1000000) (hX : Bs w w.heap.size X r.x) :
    Calls Try.prog 60 #[.pointer (some ⟨g, 0, none⟩), .agg #[.int .i64 r.kind, .int .i64 r.a, .int .i64 r.b, .slice X m cx]] w (StepF w base g F s r) := by
  have hb1 := hb.alloc (.cells #[.int .i64 r.kind, .int .i64 r.a, .int .i64 r.b, .slice X m cx] TRec)
  have kr := Blk.new w TRec #[.int .i64 r.kind, .int .i64 r.a, .int .i64 r.b, .slice X m cx]
  have bal := (Below.refl base w).alloc hbase (.cells #[.int .i64 r.kind, .int .i64 r.a, .int .i64 r.b, .slice X m cx] TRec)
  have bal2 := (Below.refl w.heap.size w).alloc (Nat.le_refl _) (.cells #[.int .i64 r.kind, .int .i64 r.a, .int .i64 r.b, .slice X m cx] TRec)
  have hgl := hb.lt
  have c0 := hb.cell 0
  have c1 := hb.cell 1
  have c2 := hb.cell 2
  have c3 := hb.cell 3
  have f0 := hb.free 0
  have f1 := hb.free 1
  have f2 := hb.free 2
  have f3 := hb.free 3
  simp only [stC, List.getElem?_toArray, List.getElem?_cons_zero, List.getElem?_cons_succ] at c0 c1 c2 c3
  have hln := ho.1
  have hfit : stFit s r = (r.a == (n : Int) + 1) := by unfold stFit; rw [if_neg (by omega), if_neg (by omega), if_pos hk, hln]
  have hnx : stNext s r = { s with log := s.log ++ [⟨r.b, r.x⟩] } := by unfold stNext; rw [if_neg (by omega), if_neg (by omega), if_pos hk]
  have HFIT := Lib.hid hfit
  have HNX := Lib.hid hnx
  have HLN := Lib.hid hln
  have HM := Lib.hid hm
  have HF := Lib.hid hF
  have hw : IntKind.i64.wrap ((n : Int) + 1) = (n : Int) + 1 := IntWalk.i64_in _ (by omega)
  clear hfit hnx hk hln hm hF
  by_cases hne : r.a = (n : Int) + 1
  · have hyes : stFit s r = true := by rw [HFIT.out]; simpa using hne
    have e1 : (r.a != (n : Int) + 1) = false := by simpa using hne
    have HY := Lib.hid hyes
    clear hyes hne
    go_enter Try.func60, Try.ntmps60
    go_wp2_with fail
    go_quiet (fail)
    go_wp2_with fail
    have hb2 : Blk ((w.alloc (.cells #[.int .i64 r.kind, .int .i64 r.a, .int .i64 r.b, .slice X m cx] TRec)).drewN nq) g TSt (stC s A n c) := hb1
    have kr2 : Blk ((w.alloc (.cells #[.int .i64 r.kind, .int .i64 r.a, .int .i64 r.b, .slice X m cx] TRec)).drewN nq) w.heap.size TRec #[.int .i64 r.kind, .int .i64 r.a, .int .i64 r.b, .slice X m cx] := kr
    have ho2 : OwnE ((w.alloc (.cells #[.int .i64 r.kind, .int .i64 r.a, .int .i64 r.b, .slice X m cx] TRec)).drewN nq) base F A n c s.log := (ho.step bal2).step (below_drewN (Below.refl _ _) _)
    have bal3 := below_drewN bal nq
    have hsz3 : w.heap.size ≤ ((w.alloc (.cells #[.int .i64 r.kind, .int .i64 r.a, .int .i64 r.b, .slice X m cx] TRec)).drewN nq).heap.size := bal2.size
    have bal4 := below_drewN bal2 nq
    have hrow : ∀ k, (Value.slice A n c).ownBlock = some k → base ≤ k ∧ k < w.heap.size ∧ k ≠ g := fun k hk => by
      obtain ⟨h1, h2, cs, h3⟩ := ho.row k hk
      refine ⟨h1, h2, fun e => ?_⟩
      unfold Blk at hb
      rw [e, hb] at h3
      injection h3 with h3
      injection h3 with _ h3
      exact absurd h3 (by decide)
    have HX0 := Lib.hid hX
    clear hb1 kr bal bal2 ho c0 c1 c2 c3 f0 f1 f2 f3 hw e1 hX
    generalize (w.alloc (.cells #[.int .i64 r.kind, .int .i64 r.a, .int .i64 r.b, .slice X m cx] TRec)).drewN nq = w2 at *
    refine wp_region_invX (B := base) (by kernel_rfl) ?hB3 [.val (.pointer (some ⟨g, 0, none⟩)), .val (.pointer (some ⟨g, 0, none⟩)), .val (.pointer (some ⟨g, 0, none⟩)), .val (.pointer (some ⟨g, 3, none⟩)), .valAt 0 0 (.slice A n c), .val (.pointer (some ⟨w.heap.size, 2, none⟩)), .val (.int .i64 r.b), .val (.pointer (some ⟨w.heap.size, 3, none⟩)), .val (.slice X m cx), .at 0 (IsOwnN w.heap.size m r.x) (isOwnN_step _ _ _), .at 0 (IsEntV w.heap.size m r.b r.x) (isEntV_step _ _ _ _), .at 0 (IsEnt1 w.heap.size m r.b r.x) (isEnt1_step _ _ _ _), .fx_ 0 (IsRowE base (fun b => F b ∨ w.heap.size ≤ b) (n + 1) (s.log ++ [⟨r.b, r.x⟩])) (isRowE_step _ _ _ _), .val (.pointer (some ⟨g, 0, none⟩)), .val (.pointer (some ⟨g, 3, none⟩)), .fxAt 1 undef] [12, 15] (fun j wx => Blk wx w.heap.size TRec #[.int .i64 r.kind, .int .i64 r.a, .int .i64 r.b, .slice X m cx] ∧ (j ≤ 1 → Blk wx g TSt (stC s A n c)) ∧ (j = 0 → OwnE wx base F A n c s.log ∧ Below w.heap.size w wx) ∧ (j = 2 → ∃ A2 c2, Blk wx g TSt (stC { s with log := s.log ++ [⟨r.b, r.x⟩] } A2 (n + 1) c2) ∧ OwnE wx base (fun b => F b ∨ w.heap.size ≤ b) A2 (n + 1) c2 (s.log ++ [⟨r.b, r.x⟩]))) (T := ?T3) (by kernel_rfl) ?hSt3 ?h03 ?hT3 ?hask3 ?hend3
    case hB3 =>
      omega
    case hSt3 =>
      exact fun j x y hb h => ⟨h.1.below hb h.1.lt, fun hj => (h.2.1 hj).below hb (h.2.1 hj).lt, fun hj => ⟨(h.2.2.1 hj).1.step hb, chain (h.2.2.1 hj).2 hb⟩, fun hj => by obtain ⟨A2, c2, k1, k2⟩ := h.2.2.2 hj; exact ⟨A2, c2, k1.below hb k1.lt, k2.step hb⟩⟩
    case h03 =>
      exact ⟨kr2, fun _ => hb2, fun _ => ⟨ho2, bal4⟩, (fun h => by cases h)⟩
    case hT3 =>
      intro vs
      simp only [fill, Act.put, List.setIfInBounds_toArray, List.set_cons_succ, List.set_cons_zero, Nat.reduceAdd]
      exact rfl
    case hask3 =>
      iterate 4 (refine askX_cons (fun vs w1 s hlo hhi hb hst hd hin => ?_) ?_; (focus (clear hlo hhi hst hin; simp only [DepX, Region.binds, SxI, List.getD_cons_zero, List.getD_cons_succ, Sx.av_val, Sx.av_valAt, Sx.av_fxAt, Sx.av_bsAt, Sx.av_ownAt, Sx.av_fxOwn, Sx.av_at, Sx.av_fx, Sx.av_on, Sx.av_fxOn, and_true] at hd; go_simp; exact givx_pure rfl rfl)))
      refine askX_cons (fun vs w1 s hlo hhi hb hst hd hin => ?_) ?_
      · obtain rfl : s = 0 := Nat.le_antisymm hhi hlo
        clear hlo hhi
        have hst : (fun j wx => Blk wx w.heap.size TRec #[.int .i64 r.kind, .int .i64 r.a, .int .i64 r.b, .slice X m cx] ∧ (j ≤ 1 → Blk wx g TSt (stC s A n c)) ∧ (j = 0 → OwnE wx base F A n c s.log ∧ Below w.heap.size w wx) ∧ (j = 2 → ∃ A2 c2, Blk wx g TSt (stC { s with log := s.log ++ [⟨r.b, r.x⟩] } A2 (n + 1) c2) ∧ OwnE wx base (fun b => F b ∨ w.heap.size ≤ b) A2 (n + 1) c2 (s.log ++ [⟨r.b, r.x⟩]))) 0 w1 := hst
        simp only [DepX, Region.binds, SxI, List.getD_cons_zero, List.getD_cons_succ, Sx.av_val, Sx.av_valAt, Sx.av_fxAt, Sx.av_bsAt, Sx.av_ownAt, Sx.av_fxOwn, Sx.av_at, Sx.av_fx, Sx.av_on, Sx.av_fxOn, and_true] at hd
        have hk1 : Blk w1 g TSt _ := hst.2.1 (by omega)
        have y0 := hk1.cell 3
        simp only [stC, List.getElem?_toArray, List.getElem?_cons_zero, List.getElem?_cons_succ] at y0
        go_simp
        exact givx_pure rfl rfl
      refine askX_cons (fun vs w1 s hlo hhi hb hst hd hin => ?_) ?_; (focus (clear hlo hhi hst hin; simp only [DepX, Region.binds, SxI, List.getD_cons_zero, List.getD_cons_succ, Sx.av_val, Sx.av_valAt, Sx.av_fxAt, Sx.av_bsAt, Sx.av_ownAt, Sx.av_fxOwn, Sx.av_at, Sx.av_fx, Sx.av_on, Sx.av_fxOn, and_true] at hd; go_simp; exact givx_pure rfl rfl))
      refine askX_cons (fun vs w1 s hlo hhi hb hst hd hin => ?_) ?_
      · have k0 : Blk w1 w.heap.size TRec _ := hst.1
        clear hlo hhi hst hin
        simp only [DepX, Region.binds, SxI, List.getD_cons_zero, List.getD_cons_succ, Sx.av_val, Sx.av_valAt, Sx.av_fxAt, Sx.av_bsAt, Sx.av_ownAt, Sx.av_fxOwn, Sx.av_at, Sx.av_fx, Sx.av_on, Sx.av_fxOn, and_true] at hd
        have y0 := k0.cell 2
        simp only [List.getElem?_toArray, List.getElem?_cons_zero, List.getElem?_cons_succ] at y0
        go_simp
        exact givx_pure rfl rfl
      refine askX_cons (fun vs w1 s hlo hhi hb hst hd hin => ?_) ?_; (focus (clear hlo hhi hst hin; simp only [DepX, Region.binds, SxI, List.getD_cons_zero, List.getD_cons_succ, Sx.av_val, Sx.av_valAt, Sx.av_fxAt, Sx.av_bsAt, Sx.av_ownAt, Sx.av_fxOwn, Sx.av_at, Sx.av_fx, Sx.av_on, Sx.av_fxOn, and_true] at hd; go_simp; exact givx_pure rfl rfl))
      refine askX_cons (fun vs w1 s hlo hhi hb hst hd hin => ?_) ?_
      · have k0 : Blk w1 w.heap.size TRec _ := hst.1
        clear hlo hhi hst hin
        simp only [DepX, Region.binds, SxI, List.getD_cons_zero, List.getD_cons_succ, Sx.av_val, Sx.av_valAt, Sx.av_fxAt, Sx.av_bsAt, Sx.av_ownAt, Sx.av_fxOwn, Sx.av_at, Sx.av_fx, Sx.av_on, Sx.av_fxOn, and_true] at hd
        have y0 := k0.cell 3
        simp only [List.getElem?_toArray, List.getElem?_cons_zero, List.getElem?_cons_succ] at y0
        go_simp
        exact givx_pure rfl rfl
      refine askX_cons (fun vs w1 s hlo hhi hb hst hd hin => ?_) ?_
      · obtain rfl : s = 0 := Nat.le_antisymm hhi hlo
        clear hlo hhi
        have hst : (fun j wx => Blk wx w.heap.size TRec #[.int .i64 r.kind, .int .i64 r.a, .int .i64 r.b, .slice X m cx] ∧ (j ≤ 1 → Blk wx g TSt (stC s A n c)) ∧ (j = 0 → OwnE wx base F A n c s.log ∧ Below w.heap.size w wx) ∧ (j = 2 → ∃ A2 c2, Blk wx g TSt (stC { s with log := s.log ++ [⟨r.b, r.x⟩] } A2 (n + 1) c2) ∧ OwnE wx base (fun b => F b ∨ w.heap.size ≤ b) A2 (n + 1) c2 (s.log ++ [⟨r.b, r.x⟩]))) 0 w1 := hst
        simp only [DepX, Region.binds, SxI, List.getD_cons_zero, List.getD_cons_succ, Sx.av_val, Sx.av_valAt, Sx.av_fxAt, Sx.av_bsAt, Sx.av_ownAt, Sx.av_fxOwn, Sx.av_at, Sx.av_fx, Sx.av_on, Sx.av_fxOn, and_true] at hd
        have bw := (hst.2.2.1 rfl).2
        have hXw : Bs w1 w1.heap.size X r.x := (HX0.out.below bw).more bw.size
        go_simp
        refine givx_enter ((some_any X r.x m cx _ HM.out (by omega) hXw).mono ?_)
        rintro e w2 ⟨A2, c2, rfl, o2, b2⟩
        exact ⟨_, rfl, givx_of rfl b2 ⟨A2, c2, rfl, Ob.mono o2 bw.size⟩⟩
      refine askX_cons (fun vs w1 s hlo hhi hb hst hd hin => ?_) ?_
      · obtain rfl : s = 0 := Nat.le_antisymm hhi hlo
        clear hlo hhi
        have hst : (fun j wx => Blk wx w.heap.size TRec #[.int .i64 r.kind, .int .i64 r.a, .int .i64 r.b, .slice X m cx] ∧ (j ≤ 1 → Blk wx g TSt (stC s A n c)) ∧ (j = 0 → OwnE wx base F A n c s.log ∧ Below w.heap.size w wx) ∧ (j = 2 → ∃ A2 c2, Blk wx g TSt (stC { s with log := s.log ++ [⟨r.b, r.x⟩] } A2 (n + 1) c2) ∧ OwnE wx base (fun b => F b ∨ w.heap.size ≤ b) A2 (n + 1) c2 (s.log ++ [⟨r.b, r.x⟩]))) 0 w1 := hst
        simp only [DepX, Region.binds, SxI, List.getD_cons_zero, List.getD_cons_succ, Sx.av_val, Sx.av_valAt, Sx.av_fxAt, Sx.av_bsAt, Sx.av_ownAt, Sx.av_fxOwn, Sx.av_at, Sx.av_fx, Sx.av_on, Sx.av_fxOn, and_true] at hd
        obtain ⟨A2, c2, hv, ho2⟩ := hd.2 (Nat.le_refl 0)
        have h20 := hd.1
        clear hd
        go_simp
        exact givx_pure rfl ⟨A2, c2, rfl, ho2⟩
      refine askX_cons (fun vs w1 s hlo hhi hb hst hd hin => ?_) ?_
      · obtain rfl : s = 0 := Nat.le_antisymm hhi hlo
        clear hlo hhi
        have hst : (fun j wx => Blk wx w.heap.size TRec #[.int .i64 r.kind, .int .i64 r.a, .int .i64 r.b, .slice X m cx] ∧ (j ≤ 1 → Blk wx g TSt (stC s A n c)) ∧ (j = 0 → OwnE wx base F A n c s.log ∧ Below w.heap.size w wx) ∧ (j = 2 → ∃ A2 c2, Blk wx g TSt (stC { s with log := s.log ++ [⟨r.b, r.x⟩] } A2 (n + 1) c2) ∧ OwnE wx base (fun b => F b ∨ w.heap.size ≤ b) A2 (n + 1) c2 (s.log ++ [⟨r.b, r.x⟩]))) 0 w1 := hst
        simp only [DepX, Region.binds, SxI, List.getD_cons_zero, List.getD_cons_succ, Sx.av_val, Sx.av_valAt, Sx.av_fxAt, Sx.av_bsAt, Sx.av_ownAt, Sx.av_fxOwn, Sx.av_at, Sx.av_fx, Sx.av_on, Sx.av_fxOn, and_true] at hd
        obtain ⟨A2, c2, hv, ho2⟩ := hd (Nat.le_refl 0)
        clear hd
        go_simp
        exact givx_value rfl ((Below.refl _ _).alloc (Nat.le_refl _) _) ⟨_, A2, c2, rfl, Blk.new _ _ _, Ob.alloc ho2 _⟩
      refine askX_cons (fun vs w1 s hlo hhi hb hst hd hin => ?_) ?_
      · obtain rfl : s = 0 := Nat.le_antisymm hhi hlo
        clear hlo hhi
        have hst : (fun j wx => Blk wx w.heap.size TRec #[.int .i64 r.kind, .int .i64 r.a, .int .i64 r.b, .slice X m cx] ∧ (j ≤ 1 → Blk wx g TSt (stC s A n c)) ∧ (j = 0 → OwnE wx base F A n c s.log ∧ Below w.heap.size w wx) ∧ (j = 2 → ∃ A2 c2, Blk wx g TSt (stC { s with log := s.log ++ [⟨r.b, r.x⟩] } A2 (n + 1) c2) ∧ OwnE wx base (fun b => F b ∨ w.heap.size ≤ b) A2 (n + 1) c2 (s.log ++ [⟨r.b, r.x⟩]))) 0 w1 := hst
        simp only [DepX, Region.binds, SxI, List.getD_cons_zero, List.getD_cons_succ, Sx.av_val, Sx.av_valAt, Sx.av_fxAt, Sx.av_bsAt, Sx.av_ownAt, Sx.av_fxOwn, Sx.av_at, Sx.av_fx, Sx.av_on, Sx.av_fxOn, and_true] at hd
        obtain ⟨k1, A2, c2, hv, hbk, ho2⟩ := hd.2.1 (Nat.le_refl 0)
        have h18 := hd.1
        clear hd
        have hrowE := (hst.2.2.1 rfl).1
        have bw := (hst.2.2.1 rfl).2
        have hsz := bw.size
        refine wanted_yes (by rfl) ?_
        have hen : ∀ i y, [(⟨r.b, r.x⟩ : Ent)][i]? = some y → EnAt w1 (fun b => F b ∨ w.heap.size ≤ b) [.int .i64 r.b, .slice A2 m c2] i y := by
          intro i y hy
          match i, hy with
          | 0, hy =>
            obtain rfl : (⟨r.b, r.x⟩ : Ent) = y := by simpa using hy
            exact ⟨A2, c2, rfl, by show some (Value.slice A2 m c2) = some (.slice A2 r.x.length c2); rw [HM.out], by show r.x.length ≤ c2; rw [HM.out]; exact (Ob.cap ho2).1, (Ob.cap ho2).2, (BsF.of_own ho2).mono fun b hb _ => .inr hb⟩
        refine gives_appE (.tmp 18) (.tmp 25) rfl (by exact h18) (hrowE.monoF fun b hf _ => .inl hf) (by exact hv) (L2 := [⟨r.b, r.x⟩]) (vs2 := [.int .i64 r.b, .slice A2 m c2]) (m := 1) rfl rfl (Rd.of_blk hbk) hen (fun u hu => by simp at hu; rcases hu with rfl | rfl <;> rfl) (by omega) (by omega) ?_ ?_
        · intro b hf _ e
          have h1 := hrow b e.symm
          rcases hf with hf | hf
          · have := HF.out b hf; omega
          · omega
        · intro A3 c3 w3 o3 g3 _
          refine givx_fx rfl ⟨g3.os, g3.tape, g3.output, g3.size, fun k hk => g3.block k (by omega) (fun e => by have := (hrow k e.symm).1; omega)⟩ ⟨hst.1.grown g3 (fun e => by have := (hrow _ e.symm).2.1; omega), fun _ => (hst.2.1 (by omega)).grown g3 (fun e => (hrow g e.symm).2.2 rfl), (fun h => by omega), (fun h => by omega)⟩ ⟨A3, c3, rfl, o3⟩
      iterate 2 (refine askX_cons (fun vs w1 s hlo hhi hb hst hd hin => ?_) ?_; (focus (clear hlo hhi hst hin; simp only [DepX, Region.binds, SxI, List.getD_cons_zero, List.getD_cons_succ, Sx.av_val, Sx.av_valAt, Sx.av_fxAt, Sx.av_bsAt, Sx.av_ownAt, Sx.av_fxOwn, Sx.av_at, Sx.av_fx, Sx.av_on, Sx.av_fxOn, and_true] at hd; go_simp; exact givx_pure rfl rfl)))
      refine askX_cons (fun vs w1 s hlo hhi hb hst hd hin => ?_) ?_
      · obtain rfl : s = 1 := Nat.le_antisymm hhi hlo
        clear hlo hhi
        have hst : (fun j wx => Blk wx w.heap.size TRec #[.int .i64 r.kind, .int .i64 r.a, .int .i64 r.b, .slice X m cx] ∧ (j ≤ 1 → Blk wx g TSt (stC s A n c)) ∧ (j = 0 → OwnE wx base F A n c s.log ∧ Below w.heap.size w wx) ∧ (j = 2 → ∃ A2 c2, Blk wx g TSt (stC { s with log := s.log ++ [⟨r.b, r.x⟩] } A2 (n + 1) c2) ∧ OwnE wx base (fun b => F b ∨ w.heap.size ≤ b) A2 (n + 1) c2 (s.log ++ [⟨r.b, r.x⟩]))) 1 w1 := hst
        simp only [DepX, Region.binds, SxI, List.getD_cons_zero, List.getD_cons_succ, Sx.av_val, Sx.av_valAt, Sx.av_fxAt, Sx.av_bsAt, Sx.av_ownAt, Sx.av_fxOwn, Sx.av_at, Sx.av_fx, Sx.av_on, Sx.av_fxOn, and_true] at hd
        obtain ⟨A2, c2, hv, ho2⟩ := hd.2.1 (by omega)
        have h14 := hd.1
        clear hd
        have hk1 : Blk w1 g TSt _ := hst.2.1 (by omega)
        have y0 := hk1.cell 3
        have z0 := hk1.free 3
        simp only [stC, List.getElem?_toArray, List.getElem?_cons_zero, List.getElem?_cons_succ] at y0
        generalize vs 12 = v12 at *
        subst hv
        go_simp
        have hk2 := hk1.set 3 (.slice A2 (n + 1) c2)
        have hFg : ¬ (F g ∨ w.heap.size ≤ g) := fun h => by rcases h with h | h; (have := HF.out g h; omega); omega
        exact givx_skip rfl ((Below.refl base w1).setCell hg _) ⟨hst.1.far (by show w.heap.size ≠ g; omega) _, (fun h => by omega), (fun h => by cases h), fun _ => ⟨A2, c2, hk2, ho2.setT hk1 (by decide) hFg 3 _⟩⟩ rfl
      exact askX_nil
    case hend3 =>
      intro vs w1 hb hst hd
      simp only [AllX, SxI, List.getD_cons_zero, List.getD_cons_succ, Sx.av_val, Sx.av_valAt, Sx.av_fxAt, Sx.av_bsAt, Sx.av_ownAt, Sx.av_fxOwn, Sx.av_at, Sx.av_fx, Sx.av_on, Sx.av_fxOn, and_true, Nat.reduceAdd] at hd
      have hlast := hd.2.2.2.2.2.2.2.2.2.2.2.2.2.2.2
      clear hd
      have b5 := bal3.trans hb
      obtain ⟨A5, c5, hk5, ho5⟩ := hst.2.2.2 rfl
      clear hst hb
      go_wp2_with fail
      go_ret
      refine ⟨by rw [HY.out]; rfl, b5, fun _ => ?_⟩
      rw [HNX.out]
      have hcap := ho5.cap
      exact ⟨A5, n + 1, c5, hk5, ho5.1, hcap.1, hcap.2, ho5.en (fun b hf _ => by rcases hf with hf | hf; (exact .inl hf); (exact .inr (by omega))) (fun b hf _ => .inr hf)⟩
  · have hno : stFit s r = false := by rw [HFIT.out]; simpa using hne
    have e1 : (r.a != (n : Int) + 1) = true := by simpa using hne
    have HNO := Lib.hid hno
    clear hno hne
    go_enter Try.func60, Try.ntmps60
    go_wp2_with fail
    go_quiet (fail)
    go_wp2_with fail
    go_ret
    exact ⟨by rw [HNO.out]; rfl, below_drewN bal _, fun h => by rw [HNO.out] at h; cases h⟩

end Go.Proofs.Ytcgkoojegopfnaa
