/- The walk of store.Save. -/
import Derived.Test.YtcgkoojegopfnaaRcs
import Derived.Test.YtcgkoojegopfnaaStoSt
import Derived.Test.YtcgkoojegopfnaaStoH
import Derived.Test.YtcgkoojegopfnaaSFrame
import Derived.Test.YtcgkoojegopfnaaDoes
import Derived.Test.YtcgkoojegopfnaaDiskS
namespace Go.Proofs.Ytcgkoojegopfnaa
open Go.RowKit
set_option linter.unusedSimpArgs false
set_option linter.unusedVariables false

/-- Records, one after the other, until one does not fit. -/
def steps : Stb → List Rcd → Stb × Int
  | s, [] => (s, 0)
  | s, r :: rs => if (sStep s r).2 = 0 then steps (sStep s r).1 rs else (s, (sStep s r).2)
def frB (r : Rcd) : List UInt8 := (fp (rBytes r)).1
def saveB (L : List Rcd) : List UInt8 := (L.map frB).flatten
/-- What is told of the save of records at a state on a disk; the state; the disk. -/
def sSave (d : Dsk) (s : Stb) (L : List Rcd) : Stb × Int × Dsk :=
  if L.all rOk = true then
    if (steps s L).2 = 0 then
      if L = [] then (s, 0, d)
      else if (dAppend d (saveB L)).2 = 0 then
        if (dSync (dAppend d (saveB L)).1).2 = 0 then ((steps s L).1, 0, (dSync (dAppend d (saveB L)).1).1)
        else (s, (dSync (dAppend d (saveB L)).1).2, (dSync (dAppend d (saveB L)).1).1)
      else (s, (dAppend d (saveB L)).2, (dAppend d (saveB L)).1)
    else (s, (steps s L).2, d)
  else (s, 1, d)

theorem steps_snoc (s : Stb) (L : List Rcd) (r : Rcd) (h : (steps s L).2 = 0) : steps s (L ++ [r]) = if (sStep (steps s L).1 r).2 = 0 then ((sStep (steps s L).1 r).1, 0) else ((steps s L).1, (sStep (steps s L).1 r).2) := by
  induction L generalizing s with
  | nil => by_cases h0 : (sStep s r).2 = 0
           · simp [steps, h0]
           · simp [steps, h0]
  | cons x xs ih =>
    by_cases h0 : (sStep s x).2 = 0
    · rw [steps, if_pos h0] at h
      rw [List.cons_append, steps, if_pos h0, ih _ h]
      simp only [steps, if_pos h0]
    · rw [steps, if_neg h0] at h
      exact absurd h h0
theorem steps_bad (s : Stb) (L M : List Rcd) (r : Rcd) (h : (steps s L).2 = 0) (h2 : (sStep (steps s L).1 r).2 ≠ 0) : (steps s (L ++ r :: M)).2 = (sStep (steps s L).1 r).2 := by
  induction L generalizing s with
  | nil => simp only [steps] at h2
           simp only [steps, List.nil_append]
           rw [if_neg h2]
  | cons x xs ih =>
    by_cases h0 : (sStep s x).2 = 0
    · simp only [steps, if_pos h0] at h h2
      rw [List.cons_append, steps, if_pos h0, ih _ h h2]
      simp only [steps, if_pos h0]
    · rw [steps, if_neg h0] at h
      exact absurd h h0
theorem saveB_snoc (L : List Rcd) (r : Rcd) : saveB (L ++ [r]) = saveB L ++ frB r := by unfold saveB; simp
theorem sStep_len (s : Stb) (r : Rcd) (h : s.log.length ≤ 70) : (sStep s r).1.log.length ≤ 70 := by
  unfold sStep
  split
  · rename_i hok
    split
    · rename_i hf
      obtain ⟨q1, q2, q3, q4, _⟩ := rOk_spec hok
      unfold stNext
      split
      · exact h
      · split
        · exact h
        · split
          · rename_i h1 h2 h3
            unfold stFit at hf
            rw [if_neg h1, if_neg h2, if_pos h3] at hf
            rw [h3] at q4
            have : (kd 3).most = 64 := rfl
            simp at hf
            simp
            omega
          · simp only [List.length_take]; omega
    · exact h
  · exact h
theorem frB_ok {r : Rcd} (h : rOk r = true) : fp (rBytes r) = (frB r, 0) ∧ (frB r).length ≤ 211 := by
  have hl := rBytes_210 h
  have hne : (rBytes r).length ≠ 0 := by unfold rBytes; simp
  have hf : fp (rBytes r) = (fput (rBytes r), 0) := by unfold fp; rw [if_neg (by omega)]
  unfold frB
  rw [hf]
  refine ⟨rfl, ?_⟩
  show (fput (rBytes r)).length ≤ 211
  have : (fput (rBytes r)).length = (rBytes r).length + 6 := by unfold fput fbody; simp [be2_length, be4_length]; omega
  omega

theorem Touch.setNew {w w' : World} {g : Nat} {q : Option Nat} (h : Touch w w' g q) {g2 : Nat} (hg : w.heap.size ≤ g2) (i : Nat) (u : Value) : Touch w (w'.setCell ⟨g2, i, none⟩ u) g q :=
  ⟨h.os, h.tape, h.output, by simp; exact h.size, fun k hk h1 h2 => (Below.heap_setCell w' ⟨g2, i, none⟩ u k (by show k ≠ g2; omega)).trans (h.block k hk h1 h2)⟩
theorem Dk.setNew {w : World} {base g g2 : Nat} {q : Option Nat} {d : Dsk} (h : Dk w base g q d) (h1 : g ≠ g2) (h2 : q ≠ some g2) (i : Nat) (u : Value) : Dk (w.setCell ⟨g2, i, none⟩ u) base g q d :=
  h.kept ((Touch.refl w g2 none).set i u) h1 (by simp) h2 (fun k _ => by simp)
theorem Own.rowT {w : World} {base n c g : Nat} {A : Option Addr} {l : List UInt8} {t : TypeId} {cs : Array Value} (h : Own w base A n c l) (hb : Blk w g t cs) (ht : t ≠ 5) : some g ≠ (Value.slice A n c).ownBlock := fun e => by
  obtain ⟨_, _, cs', h3⟩ := h.row g e.symm
  unfold Blk at hb
  rw [hb] at h3
  injection h3 with h3
  injection h3 with _ h3
  exact ht h3

theorem StF.setN {w : World} {F : Nat → Prop} {s : Stb} {A : Option Addr} {n c g : Nat} (h : StF w F s A n c) (hF : ¬ F g) (i : Nat) (u : Value) : StF (w.setCell ⟨g, i, none⟩ u) F s A n c :=
  ⟨h.1, h.2.1, h.2.2.1, h.2.2.2.keep (by simp) fun b hf _ => Below.heap_setCell w ⟨g, i, none⟩ u b (fun e => hF (by rw [show g = b from e.symm]; exact hf))⟩
theorem StF.mono {w : World} {F F' : Nat → Prop} {s : Stb} {A : Option Addr} {n c : Nat} (h : StF w F s A n c) (hF : ∀ b, F b → b < w.heap.size → F' b) : StF w F' s A n c := ⟨h.1, h.2.1, h.2.2.1, h.2.2.2.mono hF⟩

theorem StF.touch {w w' : World} {F : Nat → Prop} {s : Stb} {A : Option Addr} {n c g : Nat} {q : Option Nat} (h : StF w F s A n c) (ht : Touch w w' g q) (hF : ∀ b, F b → b < w.heap.size → b ≠ g ∧ some b ≠ q) : StF w' F s A n c :=
  ⟨h.1, h.2.1, h.2.2.1, h.2.2.2.keep ht.size fun b hf hlt => ht.block b hlt (hF b hf hlt).1 (hF b hf hlt).2⟩
theorem Blk.touch {w w' : World} {g2 g : Nat} {t : TypeId} {cs : Array Value} {q : Option Nat} (h : Blk w g2 t cs) (ht : Touch w w' g q) (h1 : g2 ≠ g) (h2 : some g2 ≠ q) : Blk w' g2 t cs := (ht.block g2 h.lt h1 h2).trans h
theorem Moved.not {w : World} {q q' : Option Nat} {b : Nat} (h : Moved w q q') (hb : b < w.heap.size) (hq : some b ≠ q) : some b ≠ q' := by
  rcases h with rfl | ⟨k, rfl, hk⟩
  · exact hq
  · intro e
    injection e with e
    omega
theorem Moved.trans {w w1 : World} {q q' q2 : Option Nat} (h : Moved w q q') (k : Moved w1 q' q2) (hs : w.heap.size ≤ w1.heap.size) : Moved w q q2 := by
  rcases k with rfl | ⟨k, rfl, hk⟩
  · exact h
  · exact .inr ⟨k, rfl, by omega⟩
theorem Touch.trans2 {w w1 w' : World} {g : Nat} {q q' : Option Nat} (h : Touch w w1 g q) (k : Touch w1 w' g q') (hm : Moved w q q') : Touch w w' g q :=
  ⟨k.os.trans h.os, k.tape.trans h.tape, k.output.trans h.output, Nat.le_trans h.size k.size, fun b hb h1 h2 => (k.block b (Nat.lt_of_lt_of_le hb h.size) h1 (hm.not hb h2)).trans (h.block b hb h1 h2)⟩

/-- What Save does. -/
def SaveR (w : World) (base g : Nat) (q : Option Nat) (F : Nat → Prop) (p : Stb × Int × Dsk) (e : Ending) (w' : World) : Prop :=
  ∃ A n c q', e = .returned (.tuple #[stV p.1 A n c, .int .i64 p.2.1]) ∧ StF w' (fun b => (F b ∨ w.heap.size ≤ b) ∧ some b ≠ q') p.1 A n c ∧ Dk w' base g q' p.2.2 ∧ Touch w w' g q ∧ Moved w q q'

/-- The exits that tell the state as it was. -/
theorem own_exit {w wr w5 : World} {base g g2 n c : Nat} {q q0 : Option Nat} {d : Dsk} {F : Nat → Prop} {s : Stb} {A : Option Addr} (hF : ∀ b, F b → b < w.heap.size ∧ b ≠ g ∧ some b ≠ q0) (hg : g < w.heap.size) (hq : ∀ k, q0 = some k → k < w.heap.size) (hm : Moved w q0 q) (hd : Dk wr base g q d) (ht : Touch w wr g q0)
    (hb : Below wr.heap.size wr w5) (ho : OwnE w5 wr.heap.size F A n c s.log) (hk : Blk w5 g2 TSt #[.int .i64 0, .int .i64 0, .int .i64 0, .slice none 0 0]) (hg2 : w.heap.size ≤ g2) (hq2 : q ≠ some g2) :
    let w6 := (((w5.setCell ⟨g2, 0, none⟩ (.int .i64 s.floor)).setCell ⟨g2, 1, none⟩ (.int .i64 s.term)).setCell ⟨g2, 2, none⟩ (.int .i64 s.vote)).setCell ⟨g2, 3, none⟩ (.slice A n c)
    StF w6 (fun b => (F b ∨ w.heap.size ≤ b) ∧ some b ≠ q) s A n c ∧ Dk w6 base g q d ∧ Touch w w6 g q0 := by
  intro w6
  have hnF : ¬ F g2 := fun h => by have := (hF _ h).1; omega
  have o6 := (((ho.setT hk (by decide) hnF 0 (.int .i64 s.floor)).setT (hk.set 0 (.int .i64 s.floor)) (by decide) hnF 1 (.int .i64 s.term)).setT ((hk.set 0 (.int .i64 s.floor)).set 1 (.int .i64 s.term)) (by decide) hnF 2 (.int .i64 s.vote)).setT (((hk.set 0 (.int .i64 s.floor)).set 1 (.int .i64 s.term)).set 2 (.int .i64 s.vote)) (by decide) hnF 3 (.slice A n c)
  have hgg : g ≠ g2 := by omega
  refine ⟨⟨o6.1, o6.cap.1, o6.cap.2, o6.en (fun b hf _ => ⟨.inl hf, ?_⟩) (fun b hf _ => ⟨.inr (Nat.le_trans ht.size hf), ?_⟩)⟩, ((((hd.step hb).setNew hgg hq2 0 _).setNew hgg hq2 1 _).setNew hgg hq2 2 _).setNew hgg hq2 3 _, ((((ht.trans (Touch.of_below hb)).setNew hg2 0 _).setNew hg2 1 _).setNew hg2 2 _).setNew hg2 3 _⟩
  · intro e
    rcases hm with rfl | ⟨k, rfl, hk⟩
    · exact (hF b hf).2.2 e
    · injection e with e
      have := (hF b hf).1
      omega
  · intro e
    have := (hd.q_lt b e.symm).2.1
    omega

set_option maxRecDepth 100000 in
set_option maxHeartbeats 3200000 in
theorem save_any (base g : Nat) (q : Option Nat) (d : Dsk) (F : Nat → Prop) (s : Stb) (A : Option Addr) (n c : Nat) (L : List Rcd) (R : Option Addr) (m cr : Nat) (w : World) (hF : ∀ b, F b → b < w.heap.size ∧ b ≠ g ∧ some b ≠ q) (hd : Dk w base g q d) (hbase : base ≤ w.heap.size)
    (hs : StF w F s A n c) (hn : n ≤ 70) (hL : L.length = m) (hm30 : m ≤ 30) (hmc : m ≤ cr) (hR : Rc w F R L) (hx : ∀ r ∈ L, r.x.length ≤ 1000000) :
    Calls Try.prog 35 #[.pointer (some ⟨g, 0, none⟩), .agg #[.int .i64 s.floor, .int .i64 s.term, .int .i64 s.vote, .slice A n c], .slice R m cr] w (SaveR w base g q F (sSave d s L)) := by
  have HF := Lib.hid hF
  have HLM := Lib.hid hL
  have HLN := Lib.hid hs.1
  have HX := Lib.hid hx
  have hg := hd.g_lt
  have hql := hd.q_lt
  have b1 := (Below.refl w.heap.size w).alloc (Nat.le_refl _) (.cells #[.int .i64 s.floor, .int .i64 s.term, .int .i64 s.vote, .slice A n c] TSt)
  have b2 := b1.alloc b1.size (.cells #[.int .i64 0, .int .i64 0, .int .i64 0, .slice none 0 0] TSt)
  have ks := (Blk.new w TSt #[.int .i64 s.floor, .int .i64 s.term, .int .i64 s.vote, .slice A n c]).alloc (.cells #[.int .i64 0, .int .i64 0, .int .i64 0, .slice none 0 0] TSt)
  have kz := Blk.new (w.alloc (.cells #[.int .i64 s.floor, .int .i64 s.term, .int .i64 s.vote, .slice A n c] TSt)) TSt #[.int .i64 0, .int .i64 0, .int .i64 0, .slice none 0 0]
  rw [World.size_alloc] at kz
  have he := Ob.nil_ ((w.alloc (.cells #[.int .i64 s.floor, .int .i64 s.term, .int .i64 s.vote, .slice A n c] TSt)).alloc (.cells #[.int .i64 0, .int .i64 0, .int .i64 0, .slice none 0 0] TSt)) w.heap.size
  have HG := Lib.hid hg
  have HQ := Lib.hid hql
  clear hF hL hx b1 hg hql
  go_enter Try.func35, Try.ntmps35
  go_wp2_with fail
  go_loopw [8, 22] (fun l i wr => ∃ (k nb : Nat) (Al : Option Addr) (cl : Nat), l = .slice Al nb cl ∧ i = .int .i64 k ∧ k ≤ m ∧ nb ≤ k * 211 ∧ Own wr w.heap.size Al nb cl (saveB (L.take k)) ∧ (L.take k).all rOk = true ∧ Below w.heap.size w wr ∧ Blk wr w.heap.size TSt #[.int .i64 s.floor, .int .i64 s.term, .int .i64 s.vote, .slice A n c] ∧ Blk wr (w.heap.size + 1) TSt #[.int .i64 0, .int .i64 0, .int .i64 0, .slice none 0 0]) (fun _ i _ => m - (intOf i).toNat)
  case atStart => exact ⟨0, 0, _, _, rfl, rfl, by omega, by omega, by simpa [saveB] using he 5, by simp, b2, ks, kz⟩
  case round =>
    clear b2 ks kz he
    obtain ⟨k, nb, Al, cl, rfl, rfl, hk, hnb, hown, hall, hb, ks, kz⟩ := hrel
    by_cases hlt : k < m
    · have hx : L[k]? = some (L[k]'(by rw [HLM.out]; exact hlt)) := List.getElem?_eq_getElem _
      have hxm : L[k]'(by rw [HLM.out]; exact hlt) ∈ L := List.getElem_mem _
      have hAw : Rc wr F R L := hR.keep hb.size fun b hf hlt => hb.block b hlt
      have hdw := hd.step hb
      obtain ⟨b, off, Ac, cc, rfl, hfb, hbl, c0, c1, c2, c3, hcc, hcm, hbs, g1, g2, g3⟩ := hAw.at_ hx
      have hg := Lib.hid (show L.take (k + 1) = L.take k ++ [L[k]'(by rw [HLM.out]; exact hlt)] by rw [List.take_succ_eq_append_getElem (by rw [HLM.out]; exact hlt)])
      have HXM := Lib.hid hxm
      clear hx hAw hxm
      generalize L[k]'(by rw [HLM.out]; exact hlt) = x at *
      obtain ⟨mx, hmx⟩ : ∃ mx, x.x.length = mx := ⟨_, rfl⟩
      rw [hmx] at c3 hcc
      have HMX := Lib.hid hmx
      have hmxb : mx ≤ 1000000 := by rw [← hmx]; exact HX.out x HXM.out
      clear hmx
      have bx := (Below.refl wr.heap.size wr).alloc (Nat.le_refl _) (.cells #[.int .i64 x.kind, .int .i64 x.a, .int .i64 x.b, .slice Ac mx cc] TRec)
      have hbs1 := (hbs.bs.below bx).more bx.size
      have ht := Touch.of_below (g := g) (q := q) hb
      go_wp2_with fail
      refine (sput_any x Ac mx cc _ HMX.out hmxb hbs1 g2 g3).mono ?_
      rintro e w4 ⟨P, np, cp, rfl, oP, b4⟩
      have bx4 := bx.trans (b4.mono bx.size)
      have bw4 := hb.trans (bx4.mono hb.size)
      have ks4 := ks.below bx4 ks.lt
      have kz4 := kz.below bx4 kz.lt
      have o4 := hown.step bx4
      have hs4 := hs.step bw4
      have hd4 := hd.step bw4
      have ht4 := Touch.of_below (g := g) (q := q) bw4
      have hbz := bw4.size
      clear bx hbs1 hbs b4 bx4 ks kz hown hb hdw c0 c1 c2 c3 ht
      cases hro : rOk x
      · have hrp : rPut x = ([], 1) := by unfold rPut; rw [hro]; rfl
        have hsv : sSave d s L = (s, 1, d) := by
          unfold sSave
          rw [if_neg]
          intro h
          rw [List.all_eq_true] at h
          rw [h x HXM.out] at hro
          cases hro
        have HSV := Lib.hid hsv
        rw [hrp]
        clear hrp hro hsv oP o4 bw4
        have y0 := ks4.cell 0
        have y1 := ks4.cell 1
        have y2 := ks4.cell 2
        have y3 := ks4.cell 3
        simp only [List.getElem?_toArray, List.getElem?_cons_zero, List.getElem?_cons_succ] at y0 y1 y2 y3
        have hl1 := ks4.lt
        go_wp2_with fail
        refine (own_any F s A n c w4 (fun b h => Nat.lt_of_lt_of_le (HF.out b h).1 hbz) HLN.out (by omega) hs4.2.2.2).mono ?_
        rintro e w5 ⟨A5, n5, c5, rfl, o5, b5⟩
        have kz5 := kz4.below b5 kz4.lt
        clear y0 y1 y2 y3
        obtain ⟨e1, e2, e3⟩ := own_exit HF.out HG.out (fun k h => (HQ.out k h).2.1) (.inl rfl) hd4 ht4 b5 o5 kz5 (by omega) (fun h => by have := (HQ.out _ h).2.1; omega)
        have y0 := kz5.cell 0
        have y1 := kz5.cell 1
        have y2 := kz5.cell 2
        have y3 := kz5.cell 3
        have z0 := kz5.free 0
        have z1 := kz5.free 1
        have z2 := kz5.free 2
        have z3 := kz5.free 3
        have hl5 := kz5.lt
        simp only [List.getElem?_toArray, List.getElem?_cons_zero, List.getElem?_cons_succ] at y0 y1 y2 y3
        unfold stV
        go_wp2_with fail
        exact bodyPost_ret (v := .tuple #[.agg #[.int .i64 s.floor, .int .i64 s.term, .int .i64 s.vote, .slice A5 n5 c5], .int .i64 1]) (by simp [results, Try.results35, go_sem, y0, y1, y2, y3, hl5]) rfl (by rw [HSV.out]; exact ⟨A5, n5, c5, q, rfl, e1, e2, e3, .inl rfl⟩)
      · have hrp : rPut x = (rBytes x, 0) := by unfold rPut; rw [hro]; rfl
        obtain ⟨hf1, hf2⟩ := frB_ok hro
        have HRO := Lib.hid hro
        rw [hrp] at oP ⊢
        simp only at oP ⊢
        have hnp := oP.1
        have hr2 := rBytes_210 hro
        clear hrp hro
        go_wp2_with fail
        refine (fput_any P (rBytes x) np cp w4 hnp (by omega) oP.bs).mono ?_
        rintro e w5 ⟨A5, c5, rfl, o5, b5⟩
        rw [hf1] at o5 ⊢
        simp only at o5 ⊢
        have bw5 := bw4.trans (b5.mono bw4.size)
        have o6 := o4.step b5
        have ks5 := ks4.below b5 ks4.lt
        have kz5 := kz4.below b5 kz4.lt
        have hbz5 := bw5.size
        obtain ⟨nf, hnf⟩ : ∃ nf, (frB x).length = nf := ⟨_, rfl⟩
        rw [hnf] at hf2 o5 ⊢
        have HNF := Lib.hid hnf
        have HF1 := Lib.hid hf1
        have hbsF := o5.bs
        clear hnf hf1 hnp hr2 oP o4 ks4 kz4 b5 bw4 hs4 hd4 ht4 hbz
        go_wp2_with (at_builtin; refine app rfl (.tmp 46) (.tmp 47) rfl rfl o6 rfl HNF.out hbsF (by omega) hbz5 ?_; intro A7 c7 w7 o7 g7 hA7)
        have b7 : Below w.heap.size w w7 := Own.grown o6 bw5 g7
        have ks7 := ks5.grown g7 (Own.rowT o6 ks5 (by decide))
        have kz7 := kz5.grown g7 (Own.rowT o6 kz5 (by decide))
        rw [← saveB_snoc, ← hg.out] at o7
        go_roundw
        case rel => exact ⟨k + 1, nb + nf, A7, c7, by rfl, by go_num, by omega, by omega, o7, by rw [hg.out, List.all_append]; simp [hall, HRO.out], b7, ks7, kz7⟩
        case measure => simp [intOf]; omega
    · obtain rfl : k = m := by omega
      have hLk : L.take k = L := List.take_of_length_le (by rw [HLM.out]; exact Nat.le_refl _)
      rw [hLk] at hown hall
      have y0 := ks.cell 0
      have y1 := ks.cell 1
      have y2 := ks.cell 2
      have y3 := ks.cell 3
      simp only [List.getElem?_toArray, List.getElem?_cons_zero, List.getElem?_cons_succ] at y0 y1 y2 y3
      have hl1 := ks.lt
      have hsr := hs.step hb
      have hbz := hb.size
      clear hLk
      go_wp2_with fail
      refine (own_any F s A n c wr (fun b h => Nat.lt_of_lt_of_le (HF.out b h).1 hbz) HLN.out (by omega) hsr.2.2.2).mono ?_
      rintro e w5 ⟨A5, n5, c5, rfl, o5, b5⟩
      have bw5 := hb.trans (b5.mono hbz)
      have e5 := o5.en (F' := fun b => (F b ∨ w.heap.size ≤ b) ∧ b ≠ w.heap.size + 1 ∧ b < w5.heap.size) (fun b hf hlt => ⟨.inl hf, by have := (HF.out b hf).1; omega, hlt⟩) (fun b hf hlt => ⟨.inr (by omega), by have := kz.lt; omega, hlt⟩)
      have hn5 := o5.1
      have hc5 := o5.cap
      have b6 := (Below.refl w5.heap.size w5).alloc (Nat.le_refl _) (.cells #[.int .i64 s.floor, .int .i64 s.term, .int .i64 s.vote, .slice A5 n5 c5] TSt)
      have kn := Blk.new w5 TSt #[.int .i64 s.floor, .int .i64 s.term, .int .i64 s.vote, .slice A5 n5 c5]
      have bw6 := bw5.trans (b6.mono bw5.size)
      have ks6 := (ks.below b5 ks.lt).below b6 (Nat.lt_of_lt_of_le ks.lt b5.size)
      have kz6 := (kz.below b5 kz.lt).below b6 (Nat.lt_of_lt_of_le kz.lt b5.size)
      have ob6 := (hown.step b5).step b6
      have e6 := e5.step b6
      have h14 : w.heap.size + 1 < w5.heap.size := Nat.lt_of_lt_of_le kz.lt b5.size
      clear y0 y1 y2 y3 hsr hbz hl1 ks kz hown hb b5 o5 e5 b6 bw5
      unfold stV
      go_wp2_with fail
      generalize w5.alloc (.cells #[.int .i64 s.floor, .int .i64 s.term, .int .i64 s.vote, .slice A5 n5 c5] TSt) = w6 at *
      have h14' : w5.heap.size < w6.heap.size := kn.lt
      generalize w5.heap.size = g14 at *
      go_loopw [54] (fun i wr => ∃ (j : Nat) (st : Stb) (At : Option Addr) (nt ct : Nat), i = .int .i64 j ∧ j ≤ k ∧ steps s (L.take j) = (st, 0) ∧ Blk wr g14 TSt #[.int .i64 st.floor, .int .i64 st.term, .int .i64 st.vote, .slice At nt ct] ∧ StF wr (fun b => (F b ∨ w.heap.size ≤ b) ∧ b ≠ w.heap.size + 1 ∧ b ≠ g14 ∧ b < wr.heap.size) st At nt ct ∧ nt ≤ 70 ∧ Own wr w.heap.size Al nb cl (saveB L) ∧ Below w.heap.size w wr ∧ Blk wr w.heap.size TSt #[.int .i64 s.floor, .int .i64 s.term, .int .i64 s.vote, .slice A n c] ∧ Blk wr (w.heap.size + 1) TSt #[.int .i64 0, .int .i64 0, .int .i64 0, .slice none 0 0]) (fun i _ => k - (intOf i).toNat)
      case atStart => exact ⟨0, s, A5, n5, c5, rfl, by omega, rfl, kn, ⟨hn5, hc5.1, hc5.2, e6.mono fun b h _ => ⟨h.1, h.2.1, by have := h.2.2; omega, by have := h.2.2; omega⟩⟩, by have := HLN.out; omega, ob6, bw6, ks6, kz6⟩
      case round =>
        clear kn bw6 ks6 kz6 ob6 e6 hn5 hc5 h14'
        obtain ⟨j, st, At, nt, ct, rfl, hj, hsteps, kn, hst, hnt, hown, hb, ks, kz⟩ := hrel
        have hg14 := kn.lt
        have hbz := hb.size
        by_cases hlt : j < k
        · have hx : L[j]? = some (L[j]'(by rw [HLM.out]; exact hlt)) := List.getElem?_eq_getElem _
          have hxm : L[j]'(by rw [HLM.out]; exact hlt) ∈ L := List.getElem_mem _
          have hAw : Rc wr F R L := hR.keep hb.size fun b hf hlt => hb.block b hlt
          obtain ⟨b, off, Ac, cc, rfl, hfb, hbl, c0, c1, c2, c3, hcc, hcm, hbs, g1, g2, g3⟩ := hAw.at_ hx
          have hg := Lib.hid (show L.take (j + 1) = L.take j ++ [L[j]'(by rw [HLM.out]; exact hlt)] by rw [List.take_succ_eq_append_getElem (by rw [HLM.out]; exact hlt)])
          have hg' := Lib.hid (show L = L.take j ++ L[j]'(by rw [HLM.out]; exact hlt) :: L.drop (j + 1) by rw [List.getElem_cons_drop, List.take_append_drop])
          have HXM := Lib.hid hxm
          clear hx hAw hxm
          generalize L[j]'(by rw [HLM.out]; exact hlt) = x at *
          obtain ⟨mx, hmx⟩ : ∃ mx, x.x.length = mx := ⟨_, rfl⟩
          rw [hmx] at c3 hcc
          have HMX := Lib.hid hmx
          have hmxb : mx ≤ 1000000 := by rw [← hmx]; exact HX.out x HXM.out
          clear hmx
          have HS := Lib.hid hsteps
          clear hsteps
          have bx := (Below.refl wr.heap.size wr).alloc (Nat.le_refl _) (.cells #[.int .i64 x.kind, .int .i64 x.a, .int .i64 x.b, .slice Ac mx cc] TRec)
          have hbs1 := (hbs.bs.below bx).more bx.size
          have y0 := kn.cell 0
          have y1 := kn.cell 1
          have y2 := kn.cell 2
          have y3 := kn.cell 3
          simp only [List.getElem?_toArray, List.getElem?_cons_zero, List.getElem?_cons_succ] at y0 y1 y2 y3
          have stx := hst.step bx
          have hln := sStep_len st x (by rw [hst.1]; exact hnt)
          go_wp2_with fail
          refine (step_any (fun b => (F b ∨ w.heap.size ≤ b) ∧ b ≠ w.heap.size + 1 ∧ b ≠ g14 ∧ b < wr.heap.size) st At nt ct x Ac mx cc _ (fun b h => Nat.lt_of_lt_of_le h.2.2.2 bx.size) stx (by omega) HMX.out hmxb hbs1 g2 g3).mono ?_
          rintro e w4 ⟨A7, n7, c7, rfl, st7, b7⟩
          have hbxs := bx.size
          have bx7 := bx.trans (b7.mono bx.size)
          have bw7 := hb.trans (bx7.mono hb.size)
          have kn7 := kn.below bx7 kn.lt
          have ks7 := ks.below bx7 ks.lt
          have kz7 := kz.below bx7 kz.lt
          have ob7 := hown.step bx7
          have hs7 := hs.step bw7
          have hd7 := hd.step bw7
          have ht7 := Touch.of_below (g := g) (q := q) bw7
          have hbz7 := bw7.size
          have hbw7 : wr.heap.size ≤ w4.heap.size := bx7.size
          obtain ⟨st8, e8, hss⟩ : ∃ a b, sStep st x = (a, b) := ⟨_, _, rfl⟩
          have HSS := Lib.hid hss
          rw [hss] at st7 hln ⊢
          simp only at st7 hln ⊢
          unfold stV
          have st7' := st7.mono (F' := fun b => (F b ∨ w.heap.size ≤ b) ∧ b ≠ w.heap.size + 1 ∧ b ≠ g14 ∧ b < w4.heap.size) (fun b h hlt => by
            rcases h with h | h
            · exact ⟨h.1, h.2.1, h.2.2.1, hlt⟩
            · exact ⟨.inr (by omega), by omega, by omega, hlt⟩)
          have hn7 := st7'.1
          have o8 := (((st7'.setN (g := g14) (fun h => h.2.2.1 rfl) 0 (.int .i64 st8.floor)).setN (g := g14) (fun h => h.2.2.1 rfl) 1 (.int .i64 st8.term)).setN (g := g14) (fun h => h.2.2.1 rfl) 2 (.int .i64 st8.vote)).setN (g := g14) (fun h => h.2.2.1 rfl) 3 (.slice A7 n7 c7)
          have k8 := (((kn7.set 0 (.int .i64 st8.floor)).set 1 (.int .i64 st8.term)).set 2 (.int .i64 st8.vote)).set 3 (.slice A7 n7 c7)
          have b8 : Below w.heap.size w ((((w4.setCell ⟨g14, 0, none⟩ (.int .i64 st8.floor)).setCell ⟨g14, 1, none⟩ (.int .i64 st8.term)).setCell ⟨g14, 2, none⟩ (.int .i64 st8.vote)).setCell ⟨g14, 3, none⟩ (.slice A7 n7 c7)) := (((bw7.setCell (by show w.heap.size ≤ g14; omega) _).setCell (by show w.heap.size ≤ g14; omega) _).setCell (by show w.heap.size ≤ g14; omega) _).setCell (by show w.heap.size ≤ g14; omega) _
          have ks8 := (((ks7.far (p := ⟨g14, 0, none⟩) (by show w.heap.size ≠ g14; omega) (.int .i64 st8.floor)).far (p := ⟨g14, 1, none⟩) (by show w.heap.size ≠ g14; omega) (.int .i64 st8.term)).far (p := ⟨g14, 2, none⟩) (by show w.heap.size ≠ g14; omega) (.int .i64 st8.vote)).far (p := ⟨g14, 3, none⟩) (by show w.heap.size ≠ g14; omega) (.slice A7 n7 c7)
          have kz8 := (((kz7.far (p := ⟨g14, 0, none⟩) (by show w.heap.size + 1 ≠ g14; omega) (.int .i64 st8.floor)).far (p := ⟨g14, 1, none⟩) (by show w.heap.size + 1 ≠ g14; omega) (.int .i64 st8.term)).far (p := ⟨g14, 2, none⟩) (by show w.heap.size + 1 ≠ g14; omega) (.int .i64 st8.vote)).far (p := ⟨g14, 3, none⟩) (by show w.heap.size + 1 ≠ g14; omega) (.slice A7 n7 c7)
          have ob8 := Own.setT (Own.setT (Own.setT (Own.setT ob7 kn7 (by decide) 0 (.int .i64 st8.floor)) (kn7.set 0 (.int .i64 st8.floor)) (by decide) 1 (.int .i64 st8.term)) ((kn7.set 0 (.int .i64 st8.floor)).set 1 (.int .i64 st8.term)) (by decide) 2 (.int .i64 st8.vote)) (((kn7.set 0 (.int .i64 st8.floor)).set 1 (.int .i64 st8.term)).set 2 (.int .i64 st8.vote)) (by decide) 3 (.slice A7 n7 c7)
          have z0 := kn7.free 0
          have z1 := kn7.free 1
          have z2 := kn7.free 2
          have z3 := kn7.free 3
          have hl14 := kn7.lt
          have p0 := kn7.cell 0
          have p1 := kn7.cell 1
          have p2 := kn7.cell 2
          have p3 := kn7.cell 3
          simp only [List.getElem?_toArray, List.getElem?_cons_zero, List.getElem?_cons_succ] at p0 p1 p2 p3
          clear st7 st7' stx bx hbs1 hbs bx7 b7 y0 y1 y2 y3 c0 c1 c2 c3 hst hown hb ks kz kn bw7 hs7 hd7 ht7 kz7 ob7
          by_cases h8 : e8 = 0
          · subst h8
            have hst9 := o8.mono (F' := fun b => (F b ∨ w.heap.size ≤ b) ∧ b ≠ w.heap.size + 1 ∧ b ≠ g14 ∧ b < ((((w4.setCell ⟨g14, 0, none⟩ (.int .i64 st8.floor)).setCell ⟨g14, 1, none⟩ (.int .i64 st8.term)).setCell ⟨g14, 2, none⟩ (.int .i64 st8.vote)).setCell ⟨g14, 3, none⟩ (.slice A7 n7 c7)).heap.size) (fun b h hlt => ⟨h.1, h.2.1, h.2.2.1, hlt⟩)
            have hsx : steps s (L.take (j + 1)) = (st8, 0) := by
              rw [hg.out, steps_snoc s _ x (by rw [HS.out])]
              rw [HS.out]
              simp only
              rw [HSS.out]
              rfl
            have HSX := Lib.hid hsx
            clear ks7 kn7 o8 hsx
            go_wp2_with fail
            go_roundw
            case rel => exact ⟨j + 1, st8, A7, n7, c7, by go_num, by omega, HSX.out, k8, hst9, by omega, ob8, b8, ks8, kz8⟩
            case measure => simp [intOf]; omega
          · have hsv : sSave d s L = (s, e8, d) := by
              have hb2 : (steps s L).2 = e8 := by
                rw [hg'.out, steps_bad s _ _ x (by rw [HS.out]) (by rw [HS.out]; simp only; rw [HSS.out]; exact h8), HS.out]
                simp only
                rw [HSS.out]
              unfold sSave
              rw [if_pos hall, if_neg (by rw [hb2]; exact h8), hb2]
            have HSV := Lib.hid hsv
            have hs8 := hs.step b8
            have hd8 := hd.step b8
            have ht8 := Touch.of_below (g := g) (q := q) b8
            have hbz8 := b8.size
            have y0 := ks7.cell 0
            have y1 := ks7.cell 1
            have y2 := ks7.cell 2
            have y3 := ks7.cell 3
            simp only [List.getElem?_toArray, List.getElem?_cons_zero, List.getElem?_cons_succ] at y0 y1 y2 y3
            have hl1 := ks7.lt
            have hne : ¬ w.heap.size = g14 := by omega
            clear o8 k8 ob8 hsv ks8 kn7 ks7 hall
            go_wp2_with fail
            refine (own_any F s A n c _ (fun b h => Nat.lt_of_lt_of_le (HF.out b h).1 hbz8) HLN.out (by omega) hs8.2.2.2).mono ?_
            rintro e w9 ⟨A9, n9, c9, rfl, o9, b9⟩
            have kz9 := kz8.below b9 kz8.lt
            clear y0 y1 y2 y3 z0 z1 z2 z3 p0 p1 p2 p3
            obtain ⟨e1, e2, e3⟩ := own_exit HF.out HG.out (fun k h => (HQ.out k h).2.1) (.inl rfl) hd8 ht8 b9 o9 kz9 (by omega) (fun h => by have := (HQ.out _ h).2.1; omega)
            have y0 := kz9.cell 0
            have y1 := kz9.cell 1
            have y2 := kz9.cell 2
            have y3 := kz9.cell 3
            have z0 := kz9.free 0
            have z1 := kz9.free 1
            have z2 := kz9.free 2
            have z3 := kz9.free 3
            have hl9 := kz9.lt
            simp only [List.getElem?_toArray, List.getElem?_cons_zero, List.getElem?_cons_succ] at y0 y1 y2 y3
            unfold stV
            go_wp2_with fail
            exact bodyPost_ret (v := .tuple #[.agg #[.int .i64 s.floor, .int .i64 s.term, .int .i64 s.vote, .slice A9 n9 c9], .int .i64 e8]) (by simp [results, Try.results35, go_sem, y0, y1, y2, y3, hl9]) rfl (by rw [HSV.out]; exact ⟨A9, n9, c9, q, rfl, e1, e2, e3, .inl rfl⟩)
        · obtain rfl : k = j := by omega
          rw [List.take_of_length_le (by rw [HLM.out]; exact Nat.le_refl _)] at hsteps
          have hsr := hs.step hb
          have hdr := hd.step hb
          have htr := Touch.of_below (g := g) (q := q) hb
          have hFF : ∀ b, ((F b ∨ w.heap.size ≤ b) ∧ b ≠ w.heap.size + 1 ∧ b ≠ g14 ∧ b < wr.heap.size) → b ≠ g ∧ some b ≠ q := by
            intro b h
            rcases h.1 with h | h
            · exact (HF.out b h).2
            · have := HG.out
              exact ⟨by omega, fun e => by have := (HQ.out b e.symm).2.1; omega⟩
          have hq2 : some (w.heap.size + 1) ≠ q := fun e => by have := (HQ.out _ e.symm).2.1; omega
          have hq1 : some w.heap.size ≠ q := fun e => by have := (HQ.out _ e.symm).2.1; omega
          have hq14 : some g14 ≠ q := fun e => by have := (HQ.out _ e.symm).2.1; omega
          have hg0 := HG.out
          have HFF := Lib.hid hFF
          have hkzl := kz.lt
          clear hFF
          by_cases hk0 : k = 0
          · subst hk0
            obtain rfl : L = [] := List.eq_nil_of_length_eq_zero HLM.out
            have hsv : sSave d s [] = (s, 0, d) := rfl
            have hst0 : s = st := by injection hsteps
            have HSV := Lib.hid hsv
            rw [← hst0] at kn hst
            clear hsv hsteps hst0
            have p0 := kn.cell 0
            have p1 := kn.cell 1
            have p2 := kn.cell 2
            have p3 := kn.cell 3
            have y0 := kz.cell 0
            have y1 := kz.cell 1
            have y2 := kz.cell 2
            have y3 := kz.cell 3
            have z0 := kz.free 0
            have z1 := kz.free 1
            have z2 := kz.free 2
            have z3 := kz.free 3
            simp only [List.getElem?_toArray, List.getElem?_cons_zero, List.getElem?_cons_succ] at y0 y1 y2 y3 p0 p1 p2 p3
            have o8 := (((hst.setN (g := w.heap.size + 1) (fun h => h.2.1 rfl) 0 (.int .i64 s.floor)).setN (g := w.heap.size + 1) (fun h => h.2.1 rfl) 1 (.int .i64 s.term)).setN (g := w.heap.size + 1) (fun h => h.2.1 rfl) 2 (.int .i64 s.vote)).setN (g := w.heap.size + 1) (fun h => h.2.1 rfl) 3 (.slice At nt ct)
            have o9 := o8.mono (F' := fun b => (F b ∨ w.heap.size ≤ b) ∧ some b ≠ q) (fun b h _ => ⟨h.1, (HFF.out b h).2⟩)
            have d9 := (((hdr.setNew (g2 := w.heap.size + 1) (by omega) hq2.symm 0 (.int .i64 s.floor)).setNew (g2 := w.heap.size + 1) (by omega) hq2.symm 1 (.int .i64 s.term)).setNew (g2 := w.heap.size + 1) (by omega) hq2.symm 2 (.int .i64 s.vote)).setNew (g2 := w.heap.size + 1) (by omega) hq2.symm 3 (.slice At nt ct)
            have t9 := (((htr.setNew (g2 := w.heap.size + 1) (by omega) 0 (.int .i64 s.floor)).setNew (g2 := w.heap.size + 1) (by omega) 1 (.int .i64 s.term)).setNew (g2 := w.heap.size + 1) (by omega) 2 (.int .i64 s.vote)).setNew (g2 := w.heap.size + 1) (by omega) 3 (.slice At nt ct)
            clear o8 hst hdr htr hsr ks kz kn hb hown
            go_wp2_with fail
            exact bodyPost_ret (v := .tuple #[.agg #[.int .i64 s.floor, .int .i64 s.term, .int .i64 s.vote, .slice At nt ct], .int .i64 0]) (by simp [results, Try.results35, go_sem, y0, y1, y2, y3, hkzl]) rfl (by rw [HSV.out]; exact ⟨At, nt, ct, q, rfl, o9, d9, t9, .inl rfl⟩)
          · have hLne : L ≠ [] := fun h => by have := HLM.out; rw [h] at this; exact hk0 this.symm
            have HLNE := Lib.hid hLne
            have hbn := hown.1
            have hbb := hown.bs
            clear hLne
            have hsv : sSave d s L = if (dAppend d (saveB L)).2 = 0 then
                (if (dSync (dAppend d (saveB L)).1).2 = 0 then (st, 0, (dSync (dAppend d (saveB L)).1).1) else (s, (dSync (dAppend d (saveB L)).1).2, (dSync (dAppend d (saveB L)).1).1))
                else (s, (dAppend d (saveB L)).2, (dAppend d (saveB L)).1) := by
              unfold sSave
              rw [if_pos hall, if_pos (by rw [hsteps]), if_neg HLNE.out, hsteps]
            have HSV0 := Lib.hid hsv
            clear hsv hsteps hall
            go_wp2_with fail
            refine (append_any base g q d Al (saveB L) nb cl wr hdr (by omega) hbn hbb).mono ?_
            rintro e w10 ⟨q1, rfl, hd1, ht1, hm1⟩
            have HSV1 := HSV0.out
            obtain ⟨d1, e1, hde⟩ : ∃ d1 e1, dAppend d (saveB L) = (d1, e1) := ⟨_, _, rfl⟩
            rw [hde] at HSV1 hd1 ⊢
            simp only at HSV1 hd1 ⊢
            have ks10 := ks.touch ht1 (by omega) hq1
            have kz10 := kz.touch ht1 (by omega) hq2
            have kn10 := kn.touch ht1 (by omega) hq14
            have hs10 := hsr.touch ht1 (fun b h _ => (HF.out b h).2)
            have st10 := hst.touch ht1 (fun b h _ => HFF.out b h)
            have T1 := htr.trans ht1
            have M1 := hm1.pre hbz
            have hbz10 := T1.size
            have hq21 := hm1.not hkzl hq2
            have hq11 := hm1.not (by omega) hq1
            have hq141 := hm1.not hg14 hq14
            have hsz1 := ht1.size
            have HSV2 := Lib.hid HSV1
            clear HSV1 hde HSV0 ks kz kn hst hsr hdr htr hb hown hbb hbn
            by_cases h1 : e1 = 0
            · subst h1
              have HSV3 := HSV2.out
              rw [if_pos rfl] at HSV3
              have HSV4 := Lib.hid HSV3
              clear HSV2 HSV3
              go_wp2_with fail
              refine (sync_any base g q1 d1 w10 hd1).mono ?_
              rintro e w11 ⟨q2, rfl, hd2, ht2, hm2⟩
              have HSV1 := HSV4.out
              obtain ⟨d2, e2, hde⟩ : ∃ d2 e2, dSync d1 = (d2, e2) := ⟨_, _, rfl⟩
              rw [hde] at HSV1 hd2 ⊢
              simp only at HSV1 hd2 ⊢
              have ks11 := ks10.touch ht2 (by omega) hq11
              have kz11 := kz10.touch ht2 (by omega) hq21
              have kn11 := kn10.touch ht2 (by omega) hq141
              have hs11 := hs10.touch ht2 (fun b h _ => ⟨(HF.out b h).2.1, hm1.not (by have := (HF.out b h).1; omega) (HF.out b h).2.2⟩)
              have st11 := st10.touch ht2 (fun b h _ => ⟨(HFF.out b h).1, hm1.not h.2.2.2 (HFF.out b h).2⟩)
              have T2 := T1.trans2 ht2 M1
              have M2w := hm1.trans hm2 hsz1
              have M2 := M2w.pre hbz
              have hbz11 := T2.size
              have hq22 := M2w.not hkzl hq2
              have HSV2 := Lib.hid HSV1
              clear HSV1 hde HSV4 ks10 kz10 kn10 hs10 st10 T1 ht1 ht2 hd1
              by_cases h2 : e2 = 0
              · subst h2
                have HSV3 := HSV2.out
                rw [if_pos rfl] at HSV3
                have HSV := Lib.hid HSV3
                clear HSV3 HSV2
                have p0 := kn11.cell 0
                have p1 := kn11.cell 1
                have p2 := kn11.cell 2
                have p3 := kn11.cell 3
                have y0 := kz11.cell 0
                have y1 := kz11.cell 1
                have y2 := kz11.cell 2
                have y3 := kz11.cell 3
                have z0 := kz11.free 0
                have z1 := kz11.free 1
                have z2 := kz11.free 2
                have z3 := kz11.free 3
                have hl9 := kz11.lt
                have hln := kn11.lt
                simp only [List.getElem?_toArray, List.getElem?_cons_zero, List.getElem?_cons_succ] at y0 y1 y2 y3 p0 p1 p2 p3
                have o8 := (((st11.setN (g := w.heap.size + 1) (fun h => h.2.1 rfl) 0 (.int .i64 st.floor)).setN (g := w.heap.size + 1) (fun h => h.2.1 rfl) 1 (.int .i64 st.term)).setN (g := w.heap.size + 1) (fun h => h.2.1 rfl) 2 (.int .i64 st.vote)).setN (g := w.heap.size + 1) (fun h => h.2.1 rfl) 3 (.slice At nt ct)
                have o9 := o8.mono (F' := fun b => (F b ∨ w.heap.size ≤ b) ∧ some b ≠ q2) (fun b h _ => ⟨h.1, M2w.not h.2.2.2 (HFF.out b h).2⟩)
                have d9 := (((hd2.setNew (g2 := w.heap.size + 1) (by omega) hq22.symm 0 (.int .i64 st.floor)).setNew (g2 := w.heap.size + 1) (by omega) hq22.symm 1 (.int .i64 st.term)).setNew (g2 := w.heap.size + 1) (by omega) hq22.symm 2 (.int .i64 st.vote)).setNew (g2 := w.heap.size + 1) (by omega) hq22.symm 3 (.slice At nt ct)
                have t9 := (((T2.setNew (g2 := w.heap.size + 1) (by omega) 0 (.int .i64 st.floor)).setNew (g2 := w.heap.size + 1) (by omega) 1 (.int .i64 st.term)).setNew (g2 := w.heap.size + 1) (by omega) 2 (.int .i64 st.vote)).setNew (g2 := w.heap.size + 1) (by omega) 3 (.slice At nt ct)
                clear o8 st11 hd2 T2 ks11 kz11 kn11 hs11
                go_wp2_with fail
                exact bodyPost_ret (v := .tuple #[.agg #[.int .i64 st.floor, .int .i64 st.term, .int .i64 st.vote, .slice At nt ct], .int .i64 0]) (by simp [results, Try.results35, go_sem, y0, y1, y2, y3, hl9]) rfl (by rw [HSV.out]; exact ⟨At, nt, ct, q2, rfl, o9, d9, t9, M2⟩)
              · have HSV3 := HSV2.out
                rw [if_neg h2] at HSV3
                have HSV := Lib.hid HSV3
                clear HSV3 HSV2 kn11 st11
                have y0 := ks11.cell 0
                have y1 := ks11.cell 1
                have y2 := ks11.cell 2
                have y3 := ks11.cell 3
                simp only [List.getElem?_toArray, List.getElem?_cons_zero, List.getElem?_cons_succ] at y0 y1 y2 y3
                have hl1 := ks11.lt
                go_wp2_with fail
                refine (own_any F s A n c _ (fun b h => Nat.lt_of_lt_of_le (HF.out b h).1 hbz11) HLN.out (by omega) hs11.2.2.2).mono ?_
                rintro e w19 ⟨A9, n9, c9, rfl, o9, b9⟩
                have kz9 := kz11.below b9 kz11.lt
                clear y0 y1 y2 y3
                obtain ⟨x1, x2, x3⟩ := own_exit HF.out HG.out (fun k h => (HQ.out k h).2.1) M2 hd2 T2 b9 o9 kz9 (by omega) (hq22).symm
                have y0 := kz9.cell 0
                have y1 := kz9.cell 1
                have y2 := kz9.cell 2
                have y3 := kz9.cell 3
                have z0 := kz9.free 0
                have z1 := kz9.free 1
                have z2 := kz9.free 2
                have z3 := kz9.free 3
                have hl9 := kz9.lt
                simp only [List.getElem?_toArray, List.getElem?_cons_zero, List.getElem?_cons_succ] at y0 y1 y2 y3
                unfold stV
                go_wp2_with fail
                exact bodyPost_ret (v := .tuple #[.agg #[.int .i64 s.floor, .int .i64 s.term, .int .i64 s.vote, .slice A9 n9 c9], .int .i64 e2]) (by simp [results, Try.results35, go_sem, y0, y1, y2, y3, hl9]) rfl (by rw [HSV.out]; exact ⟨A9, n9, c9, q2, rfl, x1, x2, x3, M2⟩)
            · have HSV3 := HSV2.out
              rw [if_neg h1] at HSV3
              have HSV := Lib.hid HSV3
              clear HSV3 HSV2 kn10 st10
              have y0 := ks10.cell 0
              have y1 := ks10.cell 1
              have y2 := ks10.cell 2
              have y3 := ks10.cell 3
              simp only [List.getElem?_toArray, List.getElem?_cons_zero, List.getElem?_cons_succ] at y0 y1 y2 y3
              have hl1 := ks10.lt
              go_wp2_with fail
              refine (own_any F s A n c _ (fun b h => Nat.lt_of_lt_of_le (HF.out b h).1 hbz10) HLN.out (by omega) hs10.2.2.2).mono ?_
              rintro e w19 ⟨A9, n9, c9, rfl, o9, b9⟩
              have kz9 := kz10.below b9 kz10.lt
              clear y0 y1 y2 y3
              obtain ⟨x1, x2, x3⟩ := own_exit HF.out HG.out (fun k h => (HQ.out k h).2.1) M1 hd1 T1 b9 o9 kz9 (by omega) (hq21).symm
              have y0 := kz9.cell 0
              have y1 := kz9.cell 1
              have y2 := kz9.cell 2
              have y3 := kz9.cell 3
              have z0 := kz9.free 0
              have z1 := kz9.free 1
              have z2 := kz9.free 2
              have z3 := kz9.free 3
              have hl9 := kz9.lt
              simp only [List.getElem?_toArray, List.getElem?_cons_zero, List.getElem?_cons_succ] at y0 y1 y2 y3
              unfold stV
              go_wp2_with fail
              exact bodyPost_ret (v := .tuple #[.agg #[.int .i64 s.floor, .int .i64 s.term, .int .i64 s.vote, .slice A9 n9 c9], .int .i64 e1]) (by simp [results, Try.results35, go_sem, y0, y1, y2, y3, hl9]) rfl (by rw [HSV.out]; exact ⟨A9, n9, c9, q1, rfl, x1, x2, x3, M1⟩)
end Go.Proofs.Ytcgkoojegopfnaa
