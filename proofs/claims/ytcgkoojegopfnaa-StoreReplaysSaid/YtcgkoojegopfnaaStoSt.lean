/- The walk of store.Step. -/
import Derived.Test.YtcgkoojegopfnaaStoE
import Derived.Test.YtcgkoojegopfnaaStoTk
import Derived.Deep.DeepCutAuto
namespace Go.Proofs.Ytcgkoojegopfnaa
open Go.RowKit
set_option linter.unusedSimpArgs false
set_option linter.unusedVariables false

theorem OwnE.en2 {w : World} {base n c : Nat} {F F' : Nat → Prop} {A : Option Addr} {L : List Ent} (h : OwnE w base F A n c L) (hF : ∀ b, F b → b < w.heap.size → F' b) (hB : ∀ k, (Value.slice A n c).ownBlock = some k → F' k) : En w F' A L := by
  obtain ⟨hn, vs, ho, hi⟩ := h
  refine ⟨vs, by rw [ho.len, hn], fun hl => ?_, fun i x hx => (hi i x hx).mono hF⟩
  obtain ⟨b, off, he, hb, hc⟩ := ho.rd hl
  exact ⟨b, off, he, hB b (by rw [he]; rfl), hb, hc⟩

/-- What Step hands back. -/
def StepR (w : World) (F : Nat → Prop) (s : Stb) (r : Rcd) (e : Ending) (w' : World) : Prop :=
  ∃ A n c, e = .returned (.tuple #[stV (sStep s r).1 A n c, .int .i64 (sStep s r).2]) ∧ StF w' (fun b => F b ∨ w.heap.size ≤ b) (sStep s r).1 A n c ∧ Below w.heap.size w w'

theorem kdF_1 {k : Int} (h : k = 1) : kdF k = .func (.func 58) #[] #[] := by rw [h]; rfl
theorem kdF_2 {k : Int} (h : k = 2) : kdF k = .func (.func 59) #[] #[] := by rw [h]; rfl
theorem kdF_3 {k : Int} (h : k = 3) : kdF k = .func (.func 60) #[] #[] := by rw [h]; rfl
theorem kdF_4 {k : Int} (h : k = 4) : kdF k = .func (.func 61) #[] #[] := by rw [h]; rfl

set_option maxRecDepth 100000 in
set_option maxHeartbeats 3200000 in
theorem step_any (F : Nat → Prop) (s : Stb) (A : Option Addr) (n c : Nat) (r : Rcd) (X : Option Addr) (m cx : Nat) (w : World) (hF : ∀ b, F b → b < w.heap.size) (hs : StF w F s A n c) (hn : n ≤ 1000) (hm : r.x.length = m) (hmm : m ≤ 1000000) (hX : Bs w w.heap.size X r.x)
    (ha : -9223372036854775808 ≤ r.a ∧ r.a ≤ 9223372036854775807) (hb : -9223372036854775808 ≤ r.b ∧ r.b ≤ 9223372036854775807) :
    Calls Try.prog 28 #[.agg #[.int .i64 s.floor, .int .i64 s.term, .int .i64 s.vote, .slice A n c], .agg #[.int .i64 r.kind, .int .i64 r.a, .int .i64 r.b, .slice X m cx]] w (StepR w F s r) := by
  have HM := Lib.hid hm
  have HLN := Lib.hid hs.1
  have b1 := (Below.refl w.heap.size w).alloc (Nat.le_refl _) (.cells #[.int .i64 s.floor, .int .i64 s.term, .int .i64 s.vote, .slice A n c] TSt)
  have b2 := b1.alloc b1.size (.cells #[.int .i64 r.kind, .int .i64 r.a, .int .i64 r.b, .slice X m cx] TRec)
  have b3 := b2.alloc b2.size (.cells #[.int .i64 0, .int .i64 0, .int .i64 0, .slice none 0 0] TSt)
  have ks := ((Blk.new w TSt #[.int .i64 s.floor, .int .i64 s.term, .int .i64 s.vote, .slice A n c]).alloc (.cells #[.int .i64 r.kind, .int .i64 r.a, .int .i64 r.b, .slice X m cx] TRec)).alloc (.cells #[.int .i64 0, .int .i64 0, .int .i64 0, .slice none 0 0] TSt)
  have kr := (Blk.new (w.alloc (.cells #[.int .i64 s.floor, .int .i64 s.term, .int .i64 s.vote, .slice A n c] TSt)) TRec #[.int .i64 r.kind, .int .i64 r.a, .int .i64 r.b, .slice X m cx]).alloc (.cells #[.int .i64 0, .int .i64 0, .int .i64 0, .slice none 0 0] TSt)
  have kz := Blk.new ((w.alloc (.cells #[.int .i64 s.floor, .int .i64 s.term, .int .i64 s.vote, .slice A n c] TSt)).alloc (.cells #[.int .i64 r.kind, .int .i64 r.a, .int .i64 r.b, .slice X m cx] TRec)) TSt #[.int .i64 0, .int .i64 0, .int .i64 0, .slice none 0 0]
  rw [World.size_alloc] at kr
  rw [World.size_alloc, World.size_alloc] at kz
  have hs3 := hs.step b3
  have hX3 := hX.below b3
  clear hm hs hX b1 b2
  go_enter Try.func28, Try.ntmps28
  go_wp2_with fail
  refine (sput_any r X m cx _ HM.out hmm (hX3.more b3.size) ha hb).mono ?_
  rintro e w4 ⟨P, np, cp, rfl, oP, b4⟩
  have bw4 := b3.trans (b4.mono b3.size)
  have ks4 := ks.below b4 ks.lt
  have kr4 := kr.below b4 kr.lt
  have kz4 := kz.below b4 kz.lt
  have hs4 := hs3.step b4
  have hX4 := hX3.below (b4.mono b3.size)
  have hl1 := ks4.lt
  have hl2 := kr4.lt
  have hl3 := kz4.lt
  have s0 := ks4.cell 0
  have s1 := ks4.cell 1
  have s2 := ks4.cell 2
  have s3 := ks4.cell 3
  simp only [List.getElem?_toArray, List.getElem?_cons_zero, List.getElem?_cons_succ] at s0 s1 s2 s3
  clear ks kr kz hs3 hX3 oP b3 b4
  have hF4 : ∀ b, F b → b < w4.heap.size := fun b h => Nat.lt_of_lt_of_le (hF b h) bw4.size
  have hnF : ¬ F (w.heap.size + 2) := fun h => by have := hF _ h; omega
  have HNF := Lib.hid hnF
  have HF := Lib.hid hF
  clear hnF hF
  cases hro : rOk r
  · have hrp : rPut r = ([], 1) := by unfold rPut; rw [hro]; rfl
    have hst : sStep s r = (s, 1) := by unfold sStep; rw [hro]; rfl
    have HST := Lib.hid hst
    rw [hrp]
    clear hrp hro hst
    go_wp2_with fail
    refine (own_any F s A n c _ hF4 HLN.out hn hs4.2.2.2).mono ?_
    rintro e w5 ⟨A5, n5, c5, rfl, o5, b5⟩
    have bw5 := bw4.trans (b5.mono bw4.size)
    have kz5 := kz4.below b5 kz4.lt
    have y0 := kz5.cell 0
    have y1 := kz5.cell 1
    have y2 := kz5.cell 2
    have y3 := kz5.cell 3
    have z0 := kz5.free 0
    have z1 := kz5.free 1
    have z2 := kz5.free 2
    have z3 := kz5.free 3
    have hl5 := kz5.lt
    simp only [List.getElem?_toArray, List.getElem?_cons_zero, List.getElem?_cons_succ] at y0 y1 y2 y3
    unfold stV
    go_wp2_with fail
    have o6 := (((o5.setT kz5 (by decide) HNF.out 0 (.int .i64 s.floor)).setT (kz5.set 0 (.int .i64 s.floor)) (by decide) HNF.out 1 (.int .i64 s.term)).setT ((kz5.set 0 (.int .i64 s.floor)).set 1 (.int .i64 s.term)) (by decide) HNF.out 2 (.int .i64 s.vote)).setT (((kz5.set 0 (.int .i64 s.floor)).set 1 (.int .i64 s.term)).set 2 (.int .i64 s.vote)) (by decide) HNF.out 3 (.slice A5 n5 c5)
    have b6 : Below w.heap.size w ((((w5.setCell ⟨w.heap.size + 2, 0, none⟩ (.int .i64 s.floor)).setCell ⟨w.heap.size + 2, 1, none⟩ (.int .i64 s.term)).setCell ⟨w.heap.size + 2, 2, none⟩ (.int .i64 s.vote)).setCell ⟨w.heap.size + 2, 3, none⟩ (.slice A5 n5 c5)) := (((bw5.setCell (Nat.le_add_right _ _) _).setCell (Nat.le_add_right _ _) _).setCell (Nat.le_add_right _ _) _).setCell (Nat.le_add_right _ _) _
    have hs4s := bw4.size
    refine bodyPost_ret (v := .tuple #[.agg #[.int .i64 s.floor, .int .i64 s.term, .int .i64 s.vote, .slice A5 n5 c5], .int .i64 1]) (by simp [results, Try.results28, go_sem, y0, y1, y2, y3, hl5]) rfl ⟨A5, n5, c5, ?_, ?_, b6⟩
    · rw [HST.out]; rfl
    · rw [HST.out]
      exact ⟨o6.1, o6.cap.1, o6.cap.2, o6.en (fun b hf _ => .inl hf) (fun b hf _ => .inr (by omega))⟩
  · have hrp : rPut r = (rBytes r, 0) := by unfold rPut; rw [hro]; rfl
    have hst : sStep s r = (if stFit s r = true then (stNext s r, 0) else (s, 5)) := by unfold sStep; rw [hro]; rfl
    have HST := Lib.hid hst
    obtain ⟨q1, q2, q3, q4, _⟩ := rOk_spec hro
    obtain ⟨a1, a2, a3, a4, a5, _, _⟩ := rOk_bd hro
    have hra4 : r.kind = 4 → 1 ≤ r.a := fun h => by rw [h] at q3; exact q3
    have HRA := Lib.hid hra4
    rw [hrp]
    clear hrp hro hst hra4 q3 q4
    go_wp2_with fail
    refine (own_any F s A n c _ hF4 HLN.out hn hs4.2.2.2).mono ?_
    rintro e w5 ⟨A5, n5, c5, rfl, o5, b5⟩
    have hn5 : n5 = n := by have := o5.1; have := HLN.out; omega
    subst hn5
    have bw5 := bw4.trans (b5.mono bw4.size)
    have hs5 := hs4.step b5
    have ks5 := ks4.below b5 ks4.lt
    have kr5 := kr4.below b5 kr4.lt
    have kz5 := kz4.below b5 kz4.lt
    have hX5 := hX4.below (b5.mono bw4.size)
    have hrow8 : ∀ k, (Value.slice A5 n5 c5).ownBlock = some k → w4.heap.size ≤ k ∧ k ≠ w5.heap.size := fun k hk => ⟨(o5.row k hk).1, by have := (o5.row k hk).2.1; omega⟩
    have b6 := (Below.refl w5.heap.size w5).alloc (Nat.le_refl _) (.cells (stC s A5 n5 c5) TSt)
    have k8 := Blk.new w5 TSt (stC s A5 n5 c5)
    have o6 := o5.step b6
    have bw6 := bw5.trans (b6.mono bw5.size)
    have ks6 := ks5.below b6 ks5.lt
    have kr6 := kr5.below b6 kr5.lt
    have kz6 := kz5.below b6 kz5.lt
    have hs6 := hs5.step b6
    have hX6 := hX5.below (b6.mono bw5.size)
    have h45 := b5.size
    have h56 := b6.size
    have h08 : w.heap.size ≤ w4.heap.size := bw4.size
    unfold stV
    clear ks4 kr4 kz4 hs4 hX4 s0 s1 s2 s3 ks5 kr5 kz5 hX5 b5 b6 o5 bw5 hs5
    unfold stC at k8 o6 bw6 ks6 kr6 kz6 hs6 hX6 h56
    go_wp2_with fail
    generalize w5.alloc (.cells #[.int .i64 s.floor, .int .i64 s.term, .int .i64 s.vote, .slice A5 n5 c5] TSt) = w6 at *
    have hg8 : w5.heap.size < w6.heap.size := k8.lt
    generalize w5.heap.size = g8 at *
    obtain ⟨fit, hfit⟩ : ∃ fit, stFit s r = fit := ⟨_, rfl⟩
    have HFT := Lib.hid hfit
    clear hfit
    refine wp_region_invX (B := w4.heap.size) (by kernel_rfl) ?hB5 [.at 0 IsMap isMap_step, .val (.pointer (some ⟨w.heap.size + 1, 0, none⟩)), .val (.int .i64 r.kind), .valAt 0 0 (.agg #[.int .i64 (kd r.kind).least, .int .i64 (kd r.kind).most, .bool (kd r.kind).second, .int .i64 (kd r.kind).mostB, .int .i64 ((kd r.kind).mostX : Nat), kdF r.kind]), .val (kdF r.kind), .val (.agg #[.int .i64 r.kind, .int .i64 r.a, .int .i64 r.b, .slice X m cx]), .fxAt 0 (.bool fit), .val (.bool (!fit))] [6] (fun j wx => (j = 0 → Blk wx g8 TSt (stC s A5 n5 c5) ∧ OwnE wx w4.heap.size F A5 n5 c5 s.log) ∧ (j = 1 → fit = true → ∃ A9 n9 c9, Blk wx g8 TSt (stC (stNext s r) A9 n9 c9) ∧ StF wx (fun b => F b ∨ w4.heap.size ≤ b) (stNext s r) A9 n9 c9)) (T := ?T5) (by kernel_rfl) ?hSt5 ?h05 ?hT5 ?hask5 ?hend5
    case hB5 =>
      omega
    case hSt5 =>
      exact fun j x y hb h => ⟨fun hj => ⟨(h.1 hj).1.below hb (h.1 hj).1.lt, (h.1 hj).2.step hb⟩, fun hj hft => by obtain ⟨A9, n9, c9, x1, x2⟩ := h.2 hj hft; exact ⟨A9, n9, c9, x1.below hb x1.lt, x2.step hb⟩⟩
    case h05 =>
      exact ⟨fun _ => ⟨k8, o6⟩, (fun h => by cases h)⟩
    case hT5 =>
      intro vs
      simp only [fill, Act.put, List.setIfInBounds_toArray, List.set_cons_succ, List.set_cons_zero, Nat.reduceAdd]
      exact rfl
    case hask5 =>
      refine askX_cons (fun vs w1 s hlo hhi hb hst hd hin => ?_) ?_
      · obtain rfl : s = 0 := Nat.le_antisymm hhi hlo
        clear hlo hhi
        have hst : (fun j wx => (j = 0 → Blk wx g8 TSt (stC s A5 n5 c5) ∧ OwnE wx w4.heap.size F A5 n5 c5 s.log) ∧ (j = 1 → fit = true → ∃ A9 n9 c9, Blk wx g8 TSt (stC (stNext s r) A9 n9 c9) ∧ StF wx (fun b => F b ∨ w4.heap.size ≤ b) (stNext s r) A9 n9 c9)) 0 w1 := hst
        simp only [DepX, Region.binds, SxI, List.getD_cons_zero, List.getD_cons_succ, Sx.av_val, Sx.av_valAt, Sx.av_fxAt, Sx.av_bsAt, Sx.av_ownAt, Sx.av_fxOwn, Sx.av_at, Sx.av_fx, Sx.av_on, Sx.av_fxOn, and_true] at hd
        go_simp
        refine givx_enter ((kinds_any _).mono ?_)
        rintro e w2 ⟨g, rfl, h1, h2⟩
        exact ⟨_, rfl, givx_of rfl h2 ⟨g, rfl, h1⟩⟩
      refine askX_cons (fun vs w1 s hlo hhi hb hst hd hin => ?_) ?_; (focus (clear hlo hhi hst hin; simp only [DepX, Region.binds, SxI, List.getD_cons_zero, List.getD_cons_succ, Sx.av_val, Sx.av_valAt, Sx.av_fxAt, Sx.av_bsAt, Sx.av_ownAt, Sx.av_fxOwn, Sx.av_at, Sx.av_fx, Sx.av_on, Sx.av_fxOn, and_true] at hd; go_simp; exact givx_pure rfl rfl))
      refine askX_cons (fun vs w1 s hlo hhi hb hst hd hin => ?_) ?_
      · clear hlo hhi hst hin
        simp only [DepX, Region.binds, SxI, List.getD_cons_zero, List.getD_cons_succ, Sx.av_val, Sx.av_valAt, Sx.av_fxAt, Sx.av_bsAt, Sx.av_ownAt, Sx.av_fxOwn, Sx.av_at, Sx.av_fx, Sx.av_on, Sx.av_fxOn, and_true] at hd
        have k0 := (kr6.below hb (by omega)).cell 0
        simp only [List.getElem?_toArray, List.getElem?_cons_zero] at k0
        go_simp
        exact givx_pure rfl rfl
      refine askX_cons (fun vs w1 s hlo hhi hb hst hd hin => ?_) ?_
      · obtain rfl : s = 0 := Nat.le_antisymm hhi hlo
        clear hlo hhi
        have hst : (fun j wx => (j = 0 → Blk wx g8 TSt (stC s A5 n5 c5) ∧ OwnE wx w4.heap.size F A5 n5 c5 s.log) ∧ (j = 1 → fit = true → ∃ A9 n9 c9, Blk wx g8 TSt (stC (stNext s r) A9 n9 c9) ∧ StF wx (fun b => F b ∨ w4.heap.size ≤ b) (stNext s r) A9 n9 c9)) 0 w1 := hst
        simp only [DepX, Region.binds, SxI, List.getD_cons_zero, List.getD_cons_succ, Sx.av_val, Sx.av_valAt, Sx.av_fxAt, Sx.av_bsAt, Sx.av_ownAt, Sx.av_fxOwn, Sx.av_at, Sx.av_fx, Sx.av_on, Sx.av_fxOn, and_true] at hd
        obtain ⟨g, hv, hmap⟩ := hd.1 (Nat.le_refl 0)
        have h1 := hd.2
        clear hd
        have hl := hmap.look r.kind false
        rw [kdAt_eq] at hl
        simp only [Bool.false_eq_true, if_false] at hl
        generalize vs 0 = v0 at *
        subst hv
        go_simp
        exact givx_pure rfl rfl
      refine askX_cons (fun vs w1 s hlo hhi hb hst hd hin => ?_) ?_; (focus (clear hlo hhi hst hin; simp only [DepX, Region.binds, SxI, List.getD_cons_zero, List.getD_cons_succ, Sx.av_val, Sx.av_valAt, Sx.av_fxAt, Sx.av_bsAt, Sx.av_ownAt, Sx.av_fxOwn, Sx.av_at, Sx.av_fx, Sx.av_on, Sx.av_fxOn, and_true] at hd; go_simp; exact givx_pure rfl rfl))
      refine askX_cons (fun vs w1 s hlo hhi hb hst hd hin => ?_) ?_
      · clear hlo hhi hst hin
        simp only [DepX, Region.binds, SxI, List.getD_cons_zero, List.getD_cons_succ, Sx.av_val, Sx.av_valAt, Sx.av_fxAt, Sx.av_bsAt, Sx.av_ownAt, Sx.av_fxOwn, Sx.av_at, Sx.av_fx, Sx.av_on, Sx.av_fxOn, and_true] at hd
        have k0 := (kr6.below hb (by omega)).cell 0
        have k1 := (kr6.below hb (by omega)).cell 1
        have k2 := (kr6.below hb (by omega)).cell 2
        have k3 := (kr6.below hb (by omega)).cell 3
        simp only [List.getElem?_toArray, List.getElem?_cons_zero, List.getElem?_cons_succ] at k0 k1 k2 k3
        go_simp
        exact givx_pure rfl rfl
      refine askX_cons (fun vs w1 s hlo hhi hb hst hd hin => ?_) ?_
      · obtain rfl : s = 0 := Nat.le_antisymm hhi hlo
        clear hlo hhi
        have hst : (fun j wx => (j = 0 → Blk wx g8 TSt (stC s A5 n5 c5) ∧ OwnE wx w4.heap.size F A5 n5 c5 s.log) ∧ (j = 1 → fit = true → ∃ A9 n9 c9, Blk wx g8 TSt (stC (stNext s r) A9 n9 c9) ∧ StF wx (fun b => F b ∨ w4.heap.size ≤ b) (stNext s r) A9 n9 c9)) 0 w1 := hst
        simp only [DepX, Region.binds, SxI, List.getD_cons_zero, List.getD_cons_succ, Sx.av_val, Sx.av_valAt, Sx.av_fxAt, Sx.av_bsAt, Sx.av_ownAt, Sx.av_fxOwn, Sx.av_at, Sx.av_fx, Sx.av_on, Sx.av_fxOn, and_true] at hd
        obtain ⟨hbk, hown⟩ := hst.1 rfl
        have hsz := hb.size
        have h4 := hd.1
        have h5 := hd.2.1
        clear hd hst
        have hXw : Bs w1 w1.heap.size X r.x := (hX6.below (hb.mono (by omega))).more (by omega)
        have hst8 : StF w1 (fun b => F b ∨ (w4.heap.size ≤ b ∧ b ≠ g8)) s A5 n5 c5 := ⟨hown.1, hown.cap.1, hown.cap.2, hown.en2 (fun b hf _ => .inl hf) (fun k hk => .inr (hrow8 k hk))⟩
        have hnF8 : ¬ (F g8 ∨ (w4.heap.size ≤ g8 ∧ g8 ≠ g8)) := fun h => by rcases h with h | h; (have := HF.out g8 h; omega); (exact h.2 rfl)
        have hF5 : ∀ b, F b → b < w4.heap.size := hF4
        rcases (show r.kind = 1 ∨ r.kind = 2 ∨ r.kind = 3 ∨ r.kind = 4 by omega) with hkk | hkk | hkk | hkk
        · rw [kdF_1 hkk] at h4
          have HKK := Lib.hid hkk
          clear hkk
          go_simp
          (with_reducible refine givx_enter ((floor_any w4.heap.size g8 (fun b => F b ∨ (w4.heap.size ≤ b ∧ b ≠ g8)) s A5 n5 c5 r X m cx _ HKK.out (by omega) (by omega) hbk hst8 hnF8).mono ?_))
          rintro e w2 ⟨rfl, hb2, hfin⟩
          rw [HFT.out] at hfin ⊢
          exact ⟨_, rfl, givx_fx rfl hb2 ⟨(fun h => by omega), fun _ hft => by obtain ⟨A9, n9, c9, x1, x2⟩ := hfin hft; exact ⟨A9, n9, c9, x1, ⟨x2.1, x2.2.1, x2.2.2.1, x2.2.2.2.mono fun b hf _ => by rcases hf with (hf | hf) | hf; (exact .inl hf); (exact .inr hf.1); (exact .inr hf)⟩⟩⟩ rfl⟩
        · rw [kdF_2 hkk] at h4
          have HKK := Lib.hid hkk
          clear hkk
          go_simp
          (with_reducible refine givx_enter ((vote_any w4.heap.size g8 (fun b => F b ∨ (w4.heap.size ≤ b ∧ b ≠ g8)) s A5 n5 c5 r X m cx _ HKK.out (by omega) (by omega) hbk hst8 hnF8).mono ?_))
          rintro e w2 ⟨rfl, hb2, hfin⟩
          rw [HFT.out] at hfin ⊢
          exact ⟨_, rfl, givx_fx rfl hb2 ⟨(fun h => by omega), fun _ hft => by obtain ⟨A9, n9, c9, x1, x2⟩ := hfin hft; exact ⟨A9, n9, c9, x1, ⟨x2.1, x2.2.1, x2.2.2.1, x2.2.2.2.mono fun b hf _ => by rcases hf with (hf | hf) | hf; (exact .inl hf); (exact .inr hf.1); (exact .inr hf)⟩⟩⟩ rfl⟩
        · rw [kdF_3 hkk] at h4
          have HKK := Lib.hid hkk
          clear hkk
          go_simp
          (with_reducible refine givx_enter ((entry_any w4.heap.size g8 F s A5 n5 c5 r X m cx _ HKK.out (by omega) (by omega) hbk hown hF5 hn HM.out hmm hXw).mono ?_))
          rintro e w2 ⟨rfl, hb2, hfin⟩
          rw [HFT.out] at hfin ⊢
          exact ⟨_, rfl, givx_fx rfl hb2 ⟨(fun h => by omega), fun _ hft => by obtain ⟨A9, n9, c9, x1, x2⟩ := hfin hft; exact ⟨A9, n9, c9, x1, x2⟩⟩ rfl⟩
        · rw [kdF_4 hkk] at h4
          have HKK := Lib.hid hkk
          clear hkk
          go_simp
          (with_reducible refine givx_enter ((cut_any15 w4.heap.size g8 (fun b => F b ∨ (w4.heap.size ≤ b ∧ b ≠ g8)) s A5 n5 c5 r X m cx _ HKK.out (by omega) (by omega) hbk hst8 hnF8 (HRA.out HKK.out) (by omega)).mono ?_))
          rintro e w2 ⟨rfl, hb2, hfin⟩
          rw [HFT.out] at hfin ⊢
          exact ⟨_, rfl, givx_fx rfl hb2 ⟨(fun h => by omega), fun _ hft => by obtain ⟨A9, n9, c9, x1, x2⟩ := hfin hft; exact ⟨A9, n9, c9, x1, ⟨x2.1, x2.2.1, x2.2.2.1, x2.2.2.2.mono fun b hf _ => by rcases hf with (hf | hf) | hf; (exact .inl hf); (exact .inr hf.1); (exact .inr hf)⟩⟩⟩ rfl⟩
      refine askX_cons (fun vs w1 s hlo hhi hb hst hd hin => ?_) ?_; (focus (clear hlo hhi hst hin; simp only [DepX, Region.binds, SxI, List.getD_cons_zero, List.getD_cons_succ, Sx.av_val, Sx.av_valAt, Sx.av_fxAt, Sx.av_bsAt, Sx.av_ownAt, Sx.av_fxOwn, Sx.av_at, Sx.av_fx, Sx.av_on, Sx.av_fxOn, and_true] at hd; go_simp; exact givx_pure rfl rfl))
      exact askX_nil
    case hend5 =>
      intro vs w1 hb hst hd
      simp only [AllX, SxI, List.getD_cons_zero, List.getD_cons_succ, Sx.av_val, Sx.av_valAt, Sx.av_fxAt, Sx.av_bsAt, Sx.av_ownAt, Sx.av_fxOwn, Sx.av_at, Sx.av_fx, Sx.av_on, Sx.av_fxOn, and_true, Nat.reduceAdd] at hd
      have hlast := hd.2.2.2.2.2.2.2
      clear hd
      have b7 := bw6.trans (hb.mono (by omega))
      have ks7 := ks6.below hb (by omega)
      have kz7 := kz6.below hb (by omega)
      have hs7 : StF w1 F s A n5 c := ⟨hs6.1, hs6.2.1, hs6.2.2.1, hs6.2.2.2.keep hb.size fun b hf hlt => hb.block b (hF4 b hf)⟩
      have hfin := hst.2 rfl
      have hsz7 := hb.size
      clear hst ks6 kr6 kz6 hs6 hX6 o6 k8 bw6 hb
      generalize vs 7 = v7 at *
      subst hlast
      cases fit
      · have HS5 := Lib.hid (show sStep s r = (s, 5) by rw [HST.out, HFT.out]; rfl)
        have HF7 : ∀ b, F b → b < w1.heap.size := fun b h => by have := HF.out b h; have := b7.size; omega
        have s0 := ks7.cell 0
        have s1 := ks7.cell 1
        have s2 := ks7.cell 2
        have s3 := ks7.cell 3
        have hls := ks7.lt
        simp only [List.getElem?_toArray, List.getElem?_cons_zero, List.getElem?_cons_succ] at s0 s1 s2 s3
        clear hfin HST
        go_wp2_with fail
        refine (own_any F s A n5 c _ HF7 hs7.1 hn hs7.2.2.2).mono ?_
        rintro e w8 ⟨A9, n9, c9, rfl, o9, b9⟩
        have kz8 := kz7.below b9 kz7.lt
        have bw8 := b7.trans (b9.mono b7.size)
        have y0 := kz8.cell 0
        have y1 := kz8.cell 1
        have y2 := kz8.cell 2
        have y3 := kz8.cell 3
        have z0 := kz8.free 0
        have z1 := kz8.free 1
        have z2 := kz8.free 2
        have z3 := kz8.free 3
        have hlz := kz8.lt
        simp only [stC, List.getElem?_toArray, List.getElem?_cons_zero, List.getElem?_cons_succ] at y0 y1 y2 y3
        unfold stV
        have hs8 := b7.size
        clear s0 s1 s2 s3 hls b9
        go_wp2_with fail
        have o6 := (((o9.setT kz8 (by decide) HNF.out 0 (.int .i64 s.floor)).setT (kz8.set 0 (.int .i64 s.floor)) (by decide) HNF.out 1 (.int .i64 s.term)).setT ((kz8.set 0 (.int .i64 s.floor)).set 1 (.int .i64 s.term)) (by decide) HNF.out 2 (.int .i64 s.vote)).setT (((kz8.set 0 (.int .i64 s.floor)).set 1 (.int .i64 s.term)).set 2 (.int .i64 s.vote)) (by decide) HNF.out 3 (.slice A9 n9 c9)
        have b6 : Below w.heap.size w ((((w8.setCell ⟨w.heap.size + 2, 0, none⟩ (.int .i64 s.floor)).setCell ⟨w.heap.size + 2, 1, none⟩ (.int .i64 s.term)).setCell ⟨w.heap.size + 2, 2, none⟩ (.int .i64 s.vote)).setCell ⟨w.heap.size + 2, 3, none⟩ (.slice A9 n9 c9)) := (((bw8.setCell (Nat.le_add_right _ _) _).setCell (Nat.le_add_right _ _) _).setCell (Nat.le_add_right _ _) _).setCell (Nat.le_add_right _ _) _
        refine bodyPost_ret (v := .tuple #[.agg #[.int .i64 s.floor, .int .i64 s.term, .int .i64 s.vote, .slice A9 n9 c9], .int .i64 5]) (by simp [results, Try.results28, go_sem, y0, y1, y2, y3, hlz]) rfl ⟨A9, n9, c9, ?_, ?_, b6⟩
        · rw [HS5.out]; rfl
        · rw [HS5.out]
          exact ⟨o6.1, o6.cap.1, o6.cap.2, o6.en (fun b hf _ => .inl hf) (fun b hf _ => .inr (by omega))⟩
      · obtain ⟨A9, n9, c9, k9, st9⟩ := hfin rfl
        have HS5 := Lib.hid (show sStep s r = (stNext s r, 0) by rw [HST.out, HFT.out]; rfl)
        obtain ⟨s', hs'⟩ : ∃ s', stNext s r = s' := ⟨_, rfl⟩
        rw [hs'] at HS5 k9 st9
        have p0 := k9.cell 0
        have p1 := k9.cell 1
        have p2 := k9.cell 2
        have p3 := k9.cell 3
        have hlp := k9.lt
        simp only [stC, List.getElem?_toArray, List.getElem?_cons_zero, List.getElem?_cons_succ] at p0 p1 p2 p3
        have y0 := kz7.cell 0
        have y1 := kz7.cell 1
        have y2 := kz7.cell 2
        have y3 := kz7.cell 3
        have z0 := kz7.free 0
        have z1 := kz7.free 1
        have z2 := kz7.free 2
        have z3 := kz7.free 3
        have hlz := kz7.lt
        simp only [stC, List.getElem?_toArray, List.getElem?_cons_zero, List.getElem?_cons_succ] at y0 y1 y2 y3
        clear hfin HST hs'
        have hnF7 : ¬ (F (w.heap.size + 2) ∨ w4.heap.size ≤ w.heap.size + 2) := fun h => by rcases h with h | h; (exact HNF.out h); omega
        have HN7 := Lib.hid hnF7
        clear hnF7
        go_wp2_with fail
        have o6 := (((st9.setT (t := TSt) (cs := #[]) HN7.out 0 (.int .i64 s'.floor)).setT (t := TSt) (cs := #[]) HN7.out 1 (.int .i64 s'.term)).setT (t := TSt) (cs := #[]) HN7.out 2 (.int .i64 s'.vote)).setT (t := TSt) (cs := #[]) HN7.out 3 (.slice A9 n9 c9)
        have b6 : Below w.heap.size w ((((w1.setCell ⟨w.heap.size + 2, 0, none⟩ (.int .i64 s'.floor)).setCell ⟨w.heap.size + 2, 1, none⟩ (.int .i64 s'.term)).setCell ⟨w.heap.size + 2, 2, none⟩ (.int .i64 s'.vote)).setCell ⟨w.heap.size + 2, 3, none⟩ (.slice A9 n9 c9)) := (((b7.setCell (Nat.le_add_right _ _) _).setCell (Nat.le_add_right _ _) _).setCell (Nat.le_add_right _ _) _).setCell (Nat.le_add_right _ _) _
        refine bodyPost_ret (v := .tuple #[.agg #[.int .i64 s'.floor, .int .i64 s'.term, .int .i64 s'.vote, .slice A9 n9 c9], .int .i64 0]) (by simp [results, Try.results28, go_sem, y0, y1, y2, y3, hlz]) rfl ⟨A9, n9, c9, ?_, ?_, b6⟩
        · rw [HS5.out]; rfl
        · rw [HS5.out]
          exact ⟨o6.1, o6.2.1, o6.2.2.1, o6.2.2.2.mono fun b hf _ => by rcases hf with hf | hf; (exact .inl hf); (exact .inr (by omega))⟩
end Go.Proofs.Ytcgkoojegopfnaa
