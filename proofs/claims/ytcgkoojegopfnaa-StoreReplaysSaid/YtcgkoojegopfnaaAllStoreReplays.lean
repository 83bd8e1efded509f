/- The law StoreReplays of coraclelaw15: for every input the call returns true, and each argument reads afterwards as it read before. Behind: The walk of the document's Save (chapter 15). Facts for the law StoreSaves: two disks and two states, the program's and the document's, that are alike. Rows of states, of the call's own. What lies in memory while the law StoreReplays runs: a disk, variables that are states, a row of states, a row of records. The walk of store.Replay. Frames, as plain functions: what is taken of what was put. The walk of the law's helper size (chapter 15). Plain facts for the law StoreReplays. How an argument that is a node's state is opened. How an argument that is a slice of records, or of slices of records, is opened. The walk of the law StoreReplays. -/
import Derived.Test.YtcgkoojegopfnaaRStep
import Derived.Test.YtcgkoojegopfnaaRDiskB
import Derived.Test.YtcgkoojegopfnaaSplitA
import Derived.Test.YtcgkoojegopfnaaFrameB
import Derived.Test.YtcgkoojegopfnaaStoTk
import Derived.Test.YtcgkoojegopfnaaFrame
import Derived.Test.YtcgkoojegopfnaaRcs
import Derived.Test.YtcgkoojegopfnaaStoH
import Derived.Test.YtcgkoojegopfnaaOpF
import Derived.Test.YtcgkoojegopfnaaStoS
import Derived.Lib.SmallJoins
import Derived.Test.YtcgkoojegopfnaaRecords
import Derived.Test.YtcgkoojegopfnaaStoSame
import Derived.Deep.DeepCutAuto
import Derived.Deep.CutBlock
import Derived.Test.YtcgkoojegopfnaaRows
namespace Go.Proofs.Ytcgkoojegopfnaa
open Go.RowKit
set_option linter.unusedSimpArgs false
set_option linter.unusedVariables false

theorem Rk.setNew {w : World} {base g g2 : Nat} {q : Option Nat} {d : Dsk} (h : Rk w base g q d) (h1 : g ≠ g2) (h2 : q ≠ some g2) (i : Nat) (u : Value) : Rk (w.setCell ⟨g2, i, none⟩ u) base g q d :=
  h.kept ((Touch.refl w g2 none).set i u) h1 (by simp) h2 (fun k _ => by simp)
/-- What the document's Save does. -/
def RSaveR (w : World) (base g : Nat) (q : Option Nat) (F : Nat → Prop) (p : Stb × Int × Dsk) (e : Ending) (w' : World) : Prop :=
  ∃ A n c q', e = .returned (.tuple #[stV p.1 A n c, .int .i64 p.2.1]) ∧ StF w' (fun b => (F b ∨ w.heap.size ≤ b) ∧ some b ≠ q') p.1 A n c ∧ Rk w' base g q' p.2.2 ∧ Touch w w' g q ∧ Moved w q q'
/-- An exit: a state is told. -/
theorem rsave_exit {w wr : World} {base g z n c : Nat} {q q0 : Option Nat} {d : Dsk} {F FX : Nat → Prop} {s t : Stb} {A : Option Addr} {v : Int} {D : Dsk} {L : List Rcd} (hsv : sSave D s L = (t, v, d)) (hX : ∀ b, FX b → b < wr.heap.size → b ≠ z ∧ (F b ∨ w.heap.size ≤ b) ∧ some b ≠ q) (hg : g < w.heap.size) (hm : Moved w q0 q)
    (hs : StF wr FX t A n c) (hd : Rk wr base g q d) (ht : Touch w wr g q0) (hz : w.heap.size ≤ z) (hqz : q ≠ some z) :
    RSaveR w base g q0 F (sSave D s L) (.returned (.tuple #[.agg #[.int .i64 t.floor, .int .i64 t.term, .int .i64 t.vote, .slice A n c], .int .i64 v])) ((((wr.setCell ⟨z, 0, none⟩ (.int .i64 t.floor)).setCell ⟨z, 1, none⟩ (.int .i64 t.term)).setCell ⟨z, 2, none⟩ (.int .i64 t.vote)).setCell ⟨z, 3, none⟩ (.slice A n c)) := by
  have hs' : StF wr (fun b => b ≠ z ∧ (F b ∨ w.heap.size ≤ b) ∧ some b ≠ q) t A n c := hs.mono hX
  have hn : ¬ (z ≠ z ∧ (F z ∨ w.heap.size ≤ z) ∧ some z ≠ q) := fun h => h.1 rfl
  have hgz : g ≠ z := by omega
  rw [hsv]
  exact ⟨A, n, c, q, rfl, ((((hs'.setN hn 0 _).setN hn 1 _).setN hn 2 _).setN hn 3 _).mono fun b h _ => h.2, (((hd.setNew hgz hqz 0 _).setNew hgz hqz 1 _).setNew hgz hqz 2 _).setNew hgz hqz 3 _, (((ht.setNew hz 0 _).setNew hz 1 _).setNew hz 2 _).setNew hz 3 _, hm⟩

/-- The state that a step told: its blocks are those of F, or made by the step (y: from, to). -/
def StepV (wr : World) (F : Nat → Prop) (t : Stb) (e : Int) (y : Gh) (v : Value) (w : World) : Prop :=
  ∃ A n c, v = .tuple #[stV t A n c, .int .i64 e] ∧ StF w (fun b => F b ∨ (wr.heap.size ≤ b ∧ y.1 ≤ b ∧ b < y.2)) t A n c
theorem StepV.step {wr : World} {F : Nat → Prop} {t : Stb} {e : Int} (y : Gh) (v : Value) (w w' : World) (hb : Below w.heap.size w w') (h : StepV wr F t e y v w) : StepV wr F t e y v w' := by
  obtain ⟨A, n, c, h1, h2⟩ := h
  exact ⟨A, n, c, h1, h2.step hb⟩
/-- A variable, that holds what a step told. -/
def StepK (wr : World) (F : Nat → Prop) (t : Stb) (u : Value) (w : World) : Prop :=
  ∃ k A n c, u = .pointer (some ⟨k, 0, none⟩) ∧ wr.heap.size ≤ k ∧ Blk w k TSt #[.int .i64 t.floor, .int .i64 t.term, .int .i64 t.vote, .slice A n c] ∧ StF w (fun b => F b ∨ wr.heap.size ≤ b) t A n c
theorem StepK.step {wr : World} {F : Nat → Prop} {t : Stb} (u v : Value) (w w' : World) (hb : Below w.heap.size w w') (h : StepK wr F t u w) : StepK wr F t u w' := by
  obtain ⟨k, A, n, c, h1, h2, h3, h4⟩ := h
  exact ⟨k, A, n, c, h1, h2, h3.below hb h3.lt, h4.step hb⟩

theorem saveB_take (L : List Rcd) (h : L.all rOk = true) : (saveB L).length ≤ L.length * 211 := saveB_len L h
theorem sStep_err (s : Stb) (r : Rcd) (hr : rOk r = true) (h : (sStep s r).2 ≠ 0) : (sStep s r).2 = 5 := by
  unfold sStep at h ⊢
  rw [if_pos hr] at h ⊢
  split at h
  · exact absurd rfl h
  · rename_i hn
    rw [if_neg hn]

set_option maxRecDepth 100000 in
set_option maxHeartbeats 3200000 in
theorem rsave_any (base g : Nat) (q : Option Nat) (d : Dsk) (F : Nat → Prop) (s : Stb) (A : Option Addr) (n c : Nat) (L : List Rcd) (R : Option Addr) (m cr : Nat) (w : World) (hF : ∀ b, F b → b < w.heap.size ∧ b ≠ g ∧ some b ≠ q) (hd : Rk w base g q d) (hbase : base ≤ w.heap.size)
    (hs : StF w F s A n c) (hn : n ≤ 70) (hL : L.length = m) (hm30 : m ≤ 30) (hmc : m ≤ cr) (hR : Rc w F R L) (hx : ∀ r ∈ L, r.x.length ≤ 1000000) :
    Calls Try.prog 37 #[.pointer (some ⟨g, 0, none⟩), .agg #[.int .i64 s.floor, .int .i64 s.term, .int .i64 s.vote, .slice A n c], .slice R m cr] w (RSaveR w base g q F (sSave d s L)) := by
  have HF := Lib.hid hF
  have HLM := Lib.hid hL
  have HLN := Lib.hid hs.1
  have HX := Lib.hid hx
  have hg := hd.g_lt
  have hql := hd.q_lt
  have b1 := (Below.refl w.heap.size w).alloc (Nat.le_refl _) (.cells #[.int .i64 s.floor, .int .i64 s.term, .int .i64 s.vote, .slice A n c] TSt)
  have b2 := b1.alloc b1.size (.cells #[.int .i64 0, .int .i64 0, .int .i64 0, .slice none 0 0] TSt)
  have b3 := b2.alloc b2.size (.cells #[] 5)
  have ks := ((Blk.new w TSt #[.int .i64 s.floor, .int .i64 s.term, .int .i64 s.vote, .slice A n c]).alloc (.cells #[.int .i64 0, .int .i64 0, .int .i64 0, .slice none 0 0] TSt)).alloc (.cells #[] 5)
  have kz := (Blk.new (w.alloc (.cells #[.int .i64 s.floor, .int .i64 s.term, .int .i64 s.vote, .slice A n c] TSt)) TSt #[.int .i64 0, .int .i64 0, .int .i64 0, .slice none 0 0]).alloc (.cells #[] 5)
  rw [World.size_alloc] at kz
  have he := Ob.empty (w := (w.alloc (.cells #[.int .i64 s.floor, .int .i64 s.term, .int .i64 s.vote, .slice A n c] TSt)).alloc (.cells #[.int .i64 0, .int .i64 0, .int .i64 0, .slice none 0 0] TSt)) (base := w.heap.size) (E := 5) b2.size
  rw [World.size_alloc, World.size_alloc] at he
  have HG := Lib.hid hg
  have HQ := Lib.hid hql
  clear hF hL hx b1 hg hql b2
  go_enter Try.func37, Try.ntmps37
  go_wp2_with fail
  go_loopw [8, 9] (fun l i wr => ∃ (k nb : Nat) (Al : Option Addr) (cl : Nat), l = .slice Al nb cl ∧ i = .int .i64 k ∧ k ≤ m ∧ nb ≤ k * 211 ∧ Own wr w.heap.size Al nb cl (saveB (L.take k)) ∧ (L.take k).all rOk = true ∧ Below w.heap.size w wr ∧ Blk wr w.heap.size TSt #[.int .i64 s.floor, .int .i64 s.term, .int .i64 s.vote, .slice A n c] ∧ Blk wr (w.heap.size + 1) TSt #[.int .i64 0, .int .i64 0, .int .i64 0, .slice none 0 0]) (fun _ i _ => m - (intOf i).toNat)
  case atStart => exact ⟨0, 0, _, _, rfl, rfl, by omega, by omega, by simpa [saveB] using he, by simp, b3, ks, kz⟩
  case round =>
    clear b3 ks kz he
    obtain ⟨k, nb, Al, cl, rfl, rfl, hk, hnb, hown, hall, hb, ks, kz⟩ := hrel
    by_cases hlt : k < m
    · have hx : L[k]? = some (L[k]'(by rw [HLM.out]; exact hlt)) := List.getElem?_eq_getElem _
      have hxm : L[k]'(by rw [HLM.out]; exact hlt) ∈ L := List.getElem_mem _
      have hAw : Rc wr F R L := hR.keep hb.size fun b hf hlt => hb.block b hlt
      obtain ⟨b, off, Ac, cc, rfl, hfb, hbl, c0, c1, c2, c3, hcc, hcm, hbs, g1, g2, g3⟩ := hAw.at_ hx
      have hg := Lib.hid (show L.take (k + 1) = L.take k ++ [L[k]'(by rw [HLM.out]; exact hlt)] by rw [List.take_succ_eq_append_getElem (by rw [HLM.out]; exact hlt)])
      have HXM := Lib.hid hxm
      clear hx hAw hxm
      generalize L[k]'(by rw [HLM.out]; exact hlt) = x at *
      obtain ⟨mx, hmx⟩ : ∃ mx, x.x.length = mx := ⟨_, rfl⟩
      rw [hmx] at c3 hcc
      have HMX := Lib.hid hmx
      have hmxb : mx ≤ 1000000 := by rw [← hmx]; exact HX.out x HXM.out
      clear hmx
      have hbs1 := hbs.bs
      go_wp2_with fail
      refine (rput15_any x Ac mx cc _ HMX.out hmxb hbs1 g2 g3).mono ?_
      rintro e w4 ⟨P, np, cp, rfl, oP, b4⟩
      have bw4 := hb.trans (b4.mono hb.size)
      have ks4 := ks.below b4 ks.lt
      have kz4 := kz.below b4 kz.lt
      have o4 := hown.step b4
      have hs4 := hs.step bw4
      have hd4 := hd.step bw4
      have ht4 := Touch.of_below (g := g) (q := q) bw4
      have hbz := bw4.size
      clear hbs1 hbs b4 ks kz hown hb c0 c1 c2 c3
      cases hro : rOk x
      · have hrp : rPut x = ([], 1) := by unfold rPut; rw [hro]; rfl
        have hsv : sSave d s L = (s, 1, d) := by
          unfold sSave
          rw [if_neg]
          intro h
          rw [List.all_eq_true] at h
          rw [h x HXM.out] at hro
          cases hro
        have HSV := Lib.hid hsv
        rw [hrp]
        clear hrp hro hsv oP o4 bw4
        have y0 := ks4.cell 0
        have y1 := ks4.cell 1
        have y2 := ks4.cell 2
        have y3 := ks4.cell 3
        have q0 := kz4.cell 0
        have q1 := kz4.cell 1
        have q2 := kz4.cell 2
        have q3 := kz4.cell 3
        have z0 := kz4.free 0
        have z1 := kz4.free 1
        have z2 := kz4.free 2
        have z3 := kz4.free 3
        simp only [List.getElem?_toArray, List.getElem?_cons_zero, List.getElem?_cons_succ] at y0 y1 y2 y3 q0 q1 q2 q3
        have hl1 := ks4.lt
        have hl2 := kz4.lt
        go_wp2_with fail
        exact bodyPost_ret (v := .tuple #[.agg #[.int .i64 s.floor, .int .i64 s.term, .int .i64 s.vote, .slice A n c], .int .i64 1]) (by simp [results, Try.results37, go_sem, q0, q1, q2, q3, hl2]) rfl (rsave_exit HSV.out (fun b h _ => ⟨by have := (HF.out b h).1; omega, .inl h, (HF.out b h).2.2⟩) HG.out (.inl rfl) hs4 hd4 ht4 (by omega) (fun h => by have := (HQ.out _ h).2.1; omega))
      · have hrp : rPut x = (rBytes x, 0) := by unfold rPut; rw [hro]; rfl
        obtain ⟨hf1, hf2⟩ := frB_ok hro
        have HRO := Lib.hid hro
        rw [hrp] at oP ⊢
        simp only at oP ⊢
        have hnp := oP.1
        have hr2 := rBytes_210 hro
        clear hrp hro
        go_wp2_with fail
        refine (frput_any P (rBytes x) np cp w4 hnp (by omega) oP.bs).mono ?_
        rintro e w5 ⟨A5, c5, rfl, o5, b5⟩
        rw [hf1] at o5 ⊢
        simp only at o5 ⊢
        have bw5 := bw4.trans (b5.mono bw4.size)
        have o6 := o4.step b5
        have ks5 := ks4.below b5 ks4.lt
        have kz5 := kz4.below b5 kz4.lt
        have hbz5 := bw5.size
        obtain ⟨nf, hnf⟩ : ∃ nf, (frB x).length = nf := ⟨_, rfl⟩
        have hf3 : nf ≤ 211 := by rw [← hnf]; exact hf2
        rw [hnf]
        have HNF := Lib.hid hnf
        have hbsF := o5.bs
        clear hnf hf1 hnp hr2 oP o4 ks4 kz4 b5 bw4 hs4 hd4 ht4 hbz hf2
        go_wp2_with (at_builtin; refine app rfl (.tmp 42) (.tmp 43) rfl rfl o6 rfl HNF.out hbsF (by omega) hbz5 ?_; intro A7 c7 w7 o7 g7 hA7)
        have b7 : Below w.heap.size w w7 := Own.grown o6 bw5 g7
        have ks7 := ks5.grown g7 (Own.rowT o6 ks5 (by decide))
        have kz7 := kz5.grown g7 (Own.rowT o6 kz5 (by decide))
        rw [← saveB_snoc, ← hg.out] at o7
        go_roundw
        case rel => exact ⟨k + 1, nb + nf, A7, c7, by rfl, by go_num, by omega, by omega, o7, by rw [hg.out, List.all_append]; simp [hall, HRO.out], b7, ks7, kz7⟩
        case measure => simp [intOf]; omega
    · obtain rfl : k = m := by omega
      have hLk : L.take k = L := List.take_of_length_le (by rw [HLM.out]; exact Nat.le_refl _)
      rw [hLk] at hown hall
      have y0 := ks.cell 0
      have y1 := ks.cell 1
      have y2 := ks.cell 2
      have y3 := ks.cell 3
      simp only [List.getElem?_toArray, List.getElem?_cons_zero, List.getElem?_cons_succ] at y0 y1 y2 y3
      have hl1 := ks.lt
      have hbz := hb.size
      have hsr := hs.step hb
      have b6 := (Below.refl wr.heap.size wr).alloc (Nat.le_refl _) (.cells #[.int .i64 s.floor, .int .i64 s.term, .int .i64 s.vote, .slice A n c] TSt)
      have kn := Blk.new wr TSt #[.int .i64 s.floor, .int .i64 s.term, .int .i64 s.vote, .slice A n c]
      have bw6 := hb.trans (b6.mono hb.size)
      have ks6 := ks.below b6 ks.lt
      have kz6 := kz.below b6 kz.lt
      have ob6 := hown.step b6
      have hs6 := hsr.step b6
      have h14 : w.heap.size + 1 < wr.heap.size := kz.lt
      have hcn := hs.2
      have hln0 := HLN.out
      clear hLk hsr ks kz hown hb b6
      go_wp2_with fail
      generalize wr.alloc (.cells #[.int .i64 s.floor, .int .i64 s.term, .int .i64 s.vote, .slice A n c] TSt) = w6 at *
      clear y0 y1 y2 y3 hl1 hbz
      have h14' : wr.heap.size < w6.heap.size := kn.lt
      generalize wr.heap.size = g14 at *
      go_loopw [15] (fun i wr => ∃ (j : Nat) (st : Stb) (At : Option Addr) (nt ct : Nat), i = .int .i64 j ∧ j ≤ k ∧ steps s (L.take j) = (st, 0) ∧ Blk wr g14 TSt #[.int .i64 st.floor, .int .i64 st.term, .int .i64 st.vote, .slice At nt ct] ∧ StF wr (fun b => (F b ∨ w.heap.size ≤ b) ∧ b ≠ w.heap.size + 1 ∧ b ≠ g14 ∧ b < wr.heap.size) st At nt ct ∧ nt ≤ 70 ∧ Own wr w.heap.size Al nb cl (saveB L) ∧ Below w.heap.size w wr ∧ Blk wr w.heap.size TSt #[.int .i64 s.floor, .int .i64 s.term, .int .i64 s.vote, .slice A n c] ∧ Blk wr (w.heap.size + 1) TSt #[.int .i64 0, .int .i64 0, .int .i64 0, .slice none 0 0]) (fun i _ => k - (intOf i).toNat)
      case atStart => exact ⟨0, s, A, n, c, rfl, by omega, rfl, kn, hs6.mono fun b h hlt => ⟨.inl h, by have := (HF.out b h).1; omega, by have := (HF.out b h).1; omega, hlt⟩, by omega, ob6, bw6, ks6, kz6⟩
      case round =>
        clear kn bw6 ks6 kz6 ob6 hs6 hcn h14'
        obtain ⟨j, st, At, nt, ct, rfl, hj, hsteps, kn, hst, hnt, hown, hb, ks, kz⟩ := hrel
        have hg14 := kn.lt
        have hbz := hb.size
        by_cases hlt : j < k
        · have hx : L[j]? = some (L[j]'(by rw [HLM.out]; exact hlt)) := List.getElem?_eq_getElem _
          have hxm : L[j]'(by rw [HLM.out]; exact hlt) ∈ L := List.getElem_mem _
          have hAw : Rc wr F R L := hR.keep hb.size fun b hf hlt => hb.block b hlt
          obtain ⟨b, off, Ac, cc, rfl, hfb, hbl, c0, c1, c2, c3, hcc, hcm, hbs, g1, g2, g3⟩ := hAw.at_ hx
          have hg := Lib.hid (show L.take (j + 1) = L.take j ++ [L[j]'(by rw [HLM.out]; exact hlt)] by rw [List.take_succ_eq_append_getElem (by rw [HLM.out]; exact hlt)])
          have hg' := Lib.hid (show L = L.take j ++ L[j]'(by rw [HLM.out]; exact hlt) :: L.drop (j + 1) by rw [List.getElem_cons_drop, List.take_append_drop])
          have HXM := Lib.hid hxm
          clear hx hAw hxm
          generalize L[j]'(by rw [HLM.out]; exact hlt) = x at *
          obtain ⟨mx, hmx⟩ : ∃ mx, x.x.length = mx := ⟨_, rfl⟩
          rw [hmx] at c3 hcc
          have HMX := Lib.hid hmx
          have hmxb : mx ≤ 1000000 := by rw [← hmx]; exact HX.out x HXM.out
          clear hmx
          have HS := Lib.hid hsteps
          clear hsteps
          have hbs1 := hbs.bs
          have hln := sStep_len st x (by rw [hst.1]; exact hnt)
          obtain ⟨st8, e8, hss⟩ : ∃ a b, sStep st x = (a, b) := ⟨_, _, rfl⟩
          have HSS := Lib.hid hss
          rw [hss] at hln
          simp only at hln
          obtain ⟨FQ, hFQ⟩ : ∃ FQ : Nat → Prop, FQ = fun b => (F b ∨ w.heap.size ≤ b) ∧ b ≠ w.heap.size + 1 ∧ b ≠ g14 ∧ b < wr.heap.size := ⟨_, rfl⟩
          rw [← hFQ] at hst
          have HFQ := Lib.hid (show ∀ b, FQ b → (F b ∨ w.heap.size ≤ b) ∧ b ≠ w.heap.size + 1 ∧ b ≠ g14 ∧ b < wr.heap.size by rw [hFQ]; exact fun _ h => h)
          have hbw := hb
          have hjr : (j : Int) < (k : Int) := by omega
          clear hFQ hss
          go_upto_region 14 with (fail)
          have hst' := hst
          refine wp_region_invG (R := (fun s _ y a b => Below wr.heap.size a b ∧ (s = 0 → y = (a.heap.size, b.heap.size) ∧ Below a.heap.size a b))) (B := wr.heap.size) (by kernel_rfl) ?hB14 ?hRB14 [.valAt 0 0 (.agg #[.int .i64 st.floor, .int .i64 st.term, .int .i64 st.vote, .slice At nt ct]), .val (.slice (some ⟨b, off, none⟩) k cr), .val (.int .i64 (j : Nat)), .val (.pointer (some ⟨b, off + j * 4, none⟩)), .valAt 0 0 (.agg #[.int .i64 x.kind, .int .i64 x.a, .int .i64 x.b, .slice Ac mx cc]), .fxG 0 (StepV wr FQ st8 e8) (StepV.step), .same 1 5 (fun v => ∃ x, v = .tuple #[x, .int .i64 e8]), .fst 1 5, .val (.int .i64 e8), .till 0 1 (IsZ wr) (IsZ.step) (fun s y y' v a a' _ hs hr h => h.over (hr.2 (by omega)).1 (Touch.of_below (g := w.heap.size) (q := none) (hr.2 (by omega)).2) (by omega) (fun j hj => by cases hj)), .fxOn 1 9 (fun u _ w => StepK wr FQ st8 u w) (fun u v w w' hb h => h.step u v w w' hb), .val (.int .i64 e8)] [5, 10] (fun s y wx => (s = 0 → Below wr.heap.size wr wx) ∧ wr.heap.size ≤ wx.heap.size ∧ y.2 ≤ wx.heap.size) (T := ?T14) (by kernel_rfl) ?hSt14 (0, 0) ?h014 ?hT14 ?hask14 ?hend14
          case hB14 =>
            exact Nat.le_refl _
          case hRB14 =>
            exact fun _ _ _ _ _ h => h.1
          case hSt14 =>
            exact fun _ _ _ _ hb h => ⟨fun hs => chain (h.1 hs) hb, Nat.le_trans h.2.1 hb.size, Nat.le_trans h.2.2 hb.size⟩
          case h014 =>
            exact ⟨fun _ => Below.refl _ _, Nat.le_refl _, Nat.zero_le _⟩
          case hT14 =>
            intro vs
            simp only [fill, Act.put, List.setIfInBounds_toArray, List.set_cons_succ, List.set_cons_zero, Nat.reduceAdd]
            exact rfl
          case hask14 =>
            refine askG_cons (fun vs w1 sg y hlo hhi hb hst hd hin => ?_) ?_
            · obtain rfl : sg = 0 := Nat.le_antisymm hhi hlo
              clear hlo hhi
              have hst0 : Below wr.heap.size wr w1 := hst.1 rfl
              simp only [DepG, Region.binds, GxI, List.getD_cons_zero, List.getD_cons_succ, Gx.av_val, Gx.av_valAt, Gx.av_fxAt, Gx.av_bsAt, Gx.av_ownAt, Gx.av_fxOwn, Gx.av_at, Gx.av_fx, Gx.av_on, Gx.av_fxOn, Gx.av_till, Gx.av_fxG, Gx.av_same, Gx.av_fst, Gx.av_till, Gx.av_fxG, Gx.av_same, Gx.av_fst, and_true] at hd
              have hk1 := kn.below hst0 kn.lt
              have y0 := hk1.cell 0
              have y1 := hk1.cell 1
              have y2 := hk1.cell 2
              have y3 := hk1.cell 3
              simp only [List.getElem?_toArray, List.getElem?_cons_zero, List.getElem?_cons_succ] at y0 y1 y2 y3
              have hl9 := hk1.lt
              go_simp
              exact givg_pure rfl rfl
            iterate 3 (refine askG_cons (fun vs w1 sg y hlo hhi hb hst hd hin => ?_) ?_; (focus (clear hlo hhi hst hin; simp only [DepG, Region.binds, GxI, List.getD_cons_zero, List.getD_cons_succ, Gx.av_val, Gx.av_valAt, Gx.av_fxAt, Gx.av_bsAt, Gx.av_ownAt, Gx.av_fxOwn, Gx.av_at, Gx.av_fx, Gx.av_on, Gx.av_fxOn, Gx.av_till, Gx.av_fxG, Gx.av_same, Gx.av_fst, and_true] at hd; go_simp; exact givg_pure rfl rfl)))
            refine askG_cons (fun vs w1 sg y hlo hhi hb hst hd hin => ?_) ?_
            · obtain rfl : sg = 0 := Nat.le_antisymm hhi hlo
              clear hlo hhi
              have hst0 : Below wr.heap.size wr w1 := hst.1 rfl
              simp only [DepG, Region.binds, GxI, List.getD_cons_zero, List.getD_cons_succ, Gx.av_val, Gx.av_valAt, Gx.av_fxAt, Gx.av_bsAt, Gx.av_ownAt, Gx.av_fxOwn, Gx.av_at, Gx.av_fx, Gx.av_on, Gx.av_fxOn, Gx.av_till, Gx.av_fxG, Gx.av_same, Gx.av_fst, Gx.av_till, Gx.av_fxG, Gx.av_same, Gx.av_fst, and_true] at hd
              have d0 := (World.cell?_of_block (a := ⟨b, off + j * 4, none⟩) (hst0.block b hbl)).trans c0
              have d1 := (World.cell?_of_block (a := ⟨b, off + j * 4 + 1, none⟩) (hst0.block b hbl)).trans c1
              have d2 := (World.cell?_of_block (a := ⟨b, off + j * 4 + 2, none⟩) (hst0.block b hbl)).trans c2
              have d3 := (World.cell?_of_block (a := ⟨b, off + j * 4 + 3, none⟩) (hst0.block b hbl)).trans c3
              have hbl1 : b < w1.heap.size := Nat.lt_of_lt_of_le hbl hst0.size
              go_simp
              exact givg_pure rfl rfl
            refine askG_cons (fun vs w1 sg y hlo hhi hb hst hd hin => ?_) ?_
            · obtain rfl : sg = 0 := Nat.le_antisymm hhi hlo
              clear hlo hhi
              have hst0 : Below wr.heap.size wr w1 := hst.1 rfl
              simp only [DepG, Region.binds, GxI, List.getD_cons_zero, List.getD_cons_succ, Gx.av_val, Gx.av_valAt, Gx.av_fxAt, Gx.av_bsAt, Gx.av_ownAt, Gx.av_fxOwn, Gx.av_at, Gx.av_fx, Gx.av_on, Gx.av_fxOn, Gx.av_till, Gx.av_fxG, Gx.av_same, Gx.av_fst, Gx.av_till, Gx.av_fxG, Gx.av_same, Gx.av_fst, and_true] at hd
              have hsz0 := hst0.size
              go_simp
              refine givg_enter ((rstep_any FQ st At nt ct x Ac mx cc w1 (fun b' h => Nat.lt_of_lt_of_le (HFQ.out b' h).2.2.2 hsz0) (hst'.step hst0) (by omega) HMX.out hmxb ((hbs1.below hst0).more hsz0) g2 g3).mono ?_)
              rintro e w2' ⟨A9, n9, c9, rfl, s9, b9⟩
              rw [HSS.out] at s9 ⊢
              simp only at s9 ⊢
              exact ⟨_, rfl, givg_fx (w1.heap.size, w2'.heap.size) rfl ⟨b9.mono (by omega), fun _ => ⟨rfl, b9⟩⟩ ⟨(fun h => by cases h), Nat.le_trans hsz0 b9.size, Nat.le_refl _⟩ ⟨A9, n9, c9, rfl, s9.mono fun b' h hlt' => h.imp id fun h => ⟨by omega, h, hlt'⟩⟩⟩
            refine askG_cons (fun vs w1 sg y hlo hhi hb hst hd hin => ?_) ?_
            · obtain rfl : sg = 1 := Nat.le_antisymm hhi hlo
              clear hlo hhi
              simp only [DepG, Region.binds, GxI, List.getD_cons_zero, List.getD_cons_succ, Gx.av_val, Gx.av_valAt, Gx.av_fxAt, Gx.av_bsAt, Gx.av_ownAt, Gx.av_fxOwn, Gx.av_at, Gx.av_fx, Gx.av_on, Gx.av_fxOn, Gx.av_till, Gx.av_fxG, Gx.av_same, Gx.av_fst, Gx.av_till, Gx.av_fxG, Gx.av_same, Gx.av_fst, and_true] at hd
              obtain ⟨A9, n9, c9, hv, _⟩ := hd (Nat.le_refl _)
              go_simp
              exact givg_pure rfl ⟨hv.symm, _, rfl⟩
            refine askG_cons (fun vs w1 sg y hlo hhi hb hst hd hin => ?_) ?_
            · clear hlo hhi
              simp only [DepG, Region.binds, GxI, List.getD_cons_zero, List.getD_cons_succ, Gx.av_val, Gx.av_valAt, Gx.av_fxAt, Gx.av_bsAt, Gx.av_ownAt, Gx.av_fxOwn, Gx.av_at, Gx.av_fx, Gx.av_on, Gx.av_fxOn, Gx.av_till, Gx.av_fxG, Gx.av_same, Gx.av_fst, Gx.av_till, Gx.av_fxG, Gx.av_same, Gx.av_fst, and_true] at hd
              obtain ⟨h8, x8, hx⟩ := hd
              have h7 : vs 5 = .tuple #[x8, .int .i64 e8] := h8.symm.trans hx
              go_simp
              exact givg_pure rfl ⟨_, h7⟩
            refine askG_cons (fun vs w1 sg y hlo hhi hb hst hd hin => ?_) ?_
            · clear hlo hhi
              simp only [DepG, Region.binds, GxI, List.getD_cons_zero, List.getD_cons_succ, Gx.av_val, Gx.av_valAt, Gx.av_fxAt, Gx.av_bsAt, Gx.av_ownAt, Gx.av_fxOwn, Gx.av_at, Gx.av_fx, Gx.av_on, Gx.av_fxOn, Gx.av_till, Gx.av_fxG, Gx.av_same, Gx.av_fst, Gx.av_till, Gx.av_fxG, Gx.av_same, Gx.av_fst, and_true] at hd
              obtain ⟨⟨h8, x8, hx⟩, _⟩ := hd
              have h7 : vs 5 = .tuple #[x8, .int .i64 e8] := h8.symm.trans hx
              go_simp
              exact givg_pure rfl rfl
            refine askG_cons (fun vs w1 sg y hlo hhi hb hst hd hin => ?_) ?_
            · clear hlo
              have hs1 := hst.2.1
              have hs2 := hst.2.2
              simp only [DepG, Region.binds, GxI, List.getD_cons_zero, List.getD_cons_succ, Gx.av_val, Gx.av_valAt, Gx.av_fxAt, Gx.av_bsAt, Gx.av_ownAt, Gx.av_fxOwn, Gx.av_at, Gx.av_fx, Gx.av_on, Gx.av_fxOn, Gx.av_till, Gx.av_fxG, Gx.av_same, Gx.av_fst, Gx.av_till, Gx.av_fxG, Gx.av_same, Gx.av_fst, and_true] at hd
              go_simp
              exact givg_value rfl ((Below.refl _ _).alloc (Nat.le_refl _) _) ⟨w1.heap.size, rfl, hs1, .inr hs2, Blk.new _ _ _⟩
            refine askG_cons (fun vs w1 sg y hlo hhi hb hst hd hin => ?_) ?_
            · obtain rfl : sg = 1 := Nat.le_antisymm hhi hlo
              clear hlo hhi
              simp only [DepG, Region.binds, GxI, List.getD_cons_zero, List.getD_cons_succ, Gx.av_val, Gx.av_valAt, Gx.av_fxAt, Gx.av_bsAt, Gx.av_ownAt, Gx.av_fxOwn, Gx.av_at, Gx.av_fx, Gx.av_on, Gx.av_fxOn, Gx.av_till, Gx.av_fxG, Gx.av_same, Gx.av_fst, Gx.av_till, Gx.av_fxG, Gx.av_same, Gx.av_fst, and_true] at hd
              obtain ⟨k', hv11, hk1, hk2, hk3⟩ := hd.1 (Nat.le_refl 1)
              obtain ⟨u9, hu9⟩ := hd.2.1
              obtain ⟨A9, n9, c9, hv7, sf⟩ := hd.2.2.1 (by omega)
              clear hd
              have hv9 : vs 7 = .agg #[.int .i64 st8.floor, .int .i64 st8.term, .int .i64 st8.vote, .slice A9 n9 c9] := by
                rw [hv7] at hu9
                injection hu9 with hu9
                have h0 := congrArg (fun a : Array Value => a[0]?) hu9
                simp only [List.getElem?_toArray, List.getElem?_cons_zero] at h0
                injection h0 with h0
                exact h0.symm
              clear hu9 hv7
              have y0 := hk3.cell 0
              have y1 := hk3.cell 1
              have y2 := hk3.cell 2
              have y3 := hk3.cell 3
              have z0 := hk3.free 0
              have z1 := hk3.free 1
              have z2 := hk3.free 2
              have z3 := hk3.free 3
              simp only [List.getElem?_toArray, List.getElem?_cons_zero, List.getElem?_cons_succ] at y0 y1 y2 y3
              go_simp
              have hFk : ¬ (FQ k' ∨ (wr.heap.size ≤ k' ∧ y.1 ≤ k' ∧ k' < y.2)) := fun h => by
                rcases h with h | h
                · have := (HFQ.out k' h).2.2.2; omega
                · omega
              have o8 := (((sf.setN hFk 0 (.int .i64 st8.floor)).setN hFk 1 (.int .i64 st8.term)).setN hFk 2 (.int .i64 st8.vote)).setN hFk 3 (.slice A9 n9 c9)
              have kk8 := (((hk3.set 0 (.int .i64 st8.floor)).set 1 (.int .i64 st8.term)).set 2 (.int .i64 st8.vote)).set 3 (.slice A9 n9 c9)
              refine givg_skip y rfl ⟨((((Below.refl wr.heap.size w1).setCell (by show wr.heap.size ≤ k'; omega) _).setCell (by show wr.heap.size ≤ k'; omega) _).setCell (by show wr.heap.size ≤ k'; omega) _).setCell (by show wr.heap.size ≤ k'; omega) _, fun h => by cases h⟩ ⟨(fun h => by cases h), by simpa using hst.2.1, by simpa using hst.2.2⟩ ⟨k', A9, n9, c9, hv11, hk1, kk8, o8.mono (fun b h _ => h.imp id fun h => h.1)⟩
            refine askG_cons (fun vs w1 sg y hlo hhi hb hst hd hin => ?_) ?_; (focus (clear hlo hhi hst hin; simp only [DepG, Region.binds, GxI, List.getD_cons_zero, List.getD_cons_succ, Gx.av_val, Gx.av_valAt, Gx.av_fxAt, Gx.av_bsAt, Gx.av_ownAt, Gx.av_fxOwn, Gx.av_at, Gx.av_fx, Gx.av_on, Gx.av_fxOn, Gx.av_till, Gx.av_fxG, Gx.av_same, Gx.av_fst, and_true] at hd; go_simp; exact givg_pure rfl rfl))
            exact askG_nil
          case hend14 =>
            intro vs w1 y hb hst hd
            simp only [AllG, GxI, List.getD_cons_zero, List.getD_cons_succ, Gx.av_val, Gx.av_valAt, Gx.av_fxAt, Gx.av_bsAt, Gx.av_ownAt, Gx.av_fxOwn, Gx.av_at, Gx.av_fx, Gx.av_on, Gx.av_fxOn, Gx.av_till, Gx.av_fxG, Gx.av_same, Gx.av_fst, and_true, Nat.reduceAdd] at hd
            have hlast := hd.2.2.2.2.2.2.2.2.2.2.2
            have h10 := hd.2.2.2.2.2.2.2.2.2.2.1
            clear hd
            obtain ⟨k', A9, n9, c9, hv11, hk1, hk3, sf⟩ := h10 (Nat.le_refl _)
            have h13 : vs 11 = .int .i64 e8 := hlast
            rw [hv11, h13]
            have bw1 := chain hbw hb
            have hbz1 := bw1.size
            have ks1 := ks.below hb ks.lt
            have kz1 := kz.below hb kz.lt
            have kn1 := kn.below hb kn.lt
            have ob1 := hown.step hb
            have hsw := hs.step bw1
            have hdw := hd.step bw1
            have htw := Touch.of_below (g := g) (q := q) bw1
            clear h10 hv11 h13 hlast hst hst' ks kz kn hown hbw c0 c1 c2 c3
            have y0 := hk3.cell 0
            have y1 := hk3.cell 1
            have y2 := hk3.cell 2
            have y3 := hk3.cell 3
            have x0 := kn1.cell 0
            have x1 := kn1.cell 1
            have x2 := kn1.cell 2
            have x3 := kn1.cell 3
            have z0 := kn1.free 0
            have z1 := kn1.free 1
            have z2 := kn1.free 2
            have z3 := kn1.free 3
            simp only [List.getElem?_toArray, List.getElem?_cons_zero, List.getElem?_cons_succ] at y0 y1 y2 y3 x0 x1 x2 x3
            have hlk := hk3.lt
            have hl14 := kn1.lt
            by_cases h8 : e8 = 0
            · subst h8
              have hsx : steps s (L.take (j + 1)) = (st8, 0) := by
                rw [hg.out, steps_snoc s _ x (by rw [HS.out]), HS.out]
                simp only
                rw [HSS.out]
                rfl
              have HSX := Lib.hid hsx
              have sf1 : StF w1 (fun b => (F b ∨ w.heap.size ≤ b) ∧ b ≠ w.heap.size + 1 ∧ b ≠ g14 ∧ b < w1.heap.size) st8 A9 n9 c9 := sf.mono fun b' h hlt' => by
                rcases h with h | h
                · have := HFQ.out b' h
                  exact ⟨this.1, this.2.1, this.2.2.1, hlt'⟩
                · exact ⟨.inr (by omega), by omega, by omega, hlt'⟩
              have hn9 : n9 ≤ 70 := by rw [← sf.1]; exact hln
              have hnf : ¬ ((F g14 ∨ w.heap.size ≤ g14) ∧ g14 ≠ w.heap.size + 1 ∧ g14 ≠ g14 ∧ g14 < w1.heap.size) := fun h => h.2.2.1 rfl
              have sz := (((sf1.setN hnf 0 (.int .i64 st8.floor)).setN hnf 1 (.int .i64 st8.term)).setN hnf 2 (.int .i64 st8.vote)).setN hnf 3 (.slice A9 n9 c9)
              have hsz : ((((w1.setCell ⟨g14, 0, none⟩ (.int .i64 st8.floor)).setCell ⟨g14, 1, none⟩ (.int .i64 st8.term)).setCell ⟨g14, 2, none⟩ (.int .i64 st8.vote)).setCell ⟨g14, 3, none⟩ (.slice A9 n9 c9)).heap.size = w1.heap.size := by simp
              have k8 := (((kn1.set 0 (.int .i64 st8.floor)).set 1 (.int .i64 st8.term)).set 2 (.int .i64 st8.vote)).set 3 (.slice A9 n9 c9)
              have b8 : Below w.heap.size w ((((w1.setCell ⟨g14, 0, none⟩ (.int .i64 st8.floor)).setCell ⟨g14, 1, none⟩ (.int .i64 st8.term)).setCell ⟨g14, 2, none⟩ (.int .i64 st8.vote)).setCell ⟨g14, 3, none⟩ (.slice A9 n9 c9)) := (((bw1.setCell (by show w.heap.size ≤ g14; omega) _).setCell (by show w.heap.size ≤ g14; omega) _).setCell (by show w.heap.size ≤ g14; omega) _).setCell (by show w.heap.size ≤ g14; omega) _
              have ks8 := (((ks1.far (p := ⟨g14, 0, none⟩) (by show w.heap.size ≠ g14; omega) (.int .i64 st8.floor)).far (p := ⟨g14, 1, none⟩) (by show w.heap.size ≠ g14; omega) (.int .i64 st8.term)).far (p := ⟨g14, 2, none⟩) (by show w.heap.size ≠ g14; omega) (.int .i64 st8.vote)).far (p := ⟨g14, 3, none⟩) (by show w.heap.size ≠ g14; omega) (.slice A9 n9 c9)
              have kz8 := (((kz1.far (p := ⟨g14, 0, none⟩) (by show w.heap.size + 1 ≠ g14; omega) (.int .i64 st8.floor)).far (p := ⟨g14, 1, none⟩) (by show w.heap.size + 1 ≠ g14; omega) (.int .i64 st8.term)).far (p := ⟨g14, 2, none⟩) (by show w.heap.size + 1 ≠ g14; omega) (.int .i64 st8.vote)).far (p := ⟨g14, 3, none⟩) (by show w.heap.size + 1 ≠ g14; omega) (.slice A9 n9 c9)
              have ob8 := Own.setT (Own.setT (Own.setT (Own.setT ob1 kn1 (by decide) 0 (.int .i64 st8.floor)) (kn1.set 0 (.int .i64 st8.floor)) (by decide) 1 (.int .i64 st8.term)) ((kn1.set 0 (.int .i64 st8.floor)).set 1 (.int .i64 st8.term)) (by decide) 2 (.int .i64 st8.vote)) (((kn1.set 0 (.int .i64 st8.floor)).set 1 (.int .i64 st8.term)).set 2 (.int .i64 st8.vote)) (by decide) 3 (.slice A9 n9 c9)
              clear sf sf1 hsx kn1 ks1 kz1 ob1 hsw hdw htw
              go_wp2_with fail
              exact ⟨⟨j + 1, st8, A9, n9, c9, by go_num, by omega, HSX.out, k8, by rw [hsz]; exact sz, hn9, ob8, b8, ks8, kz8⟩, by simp [intOf]; omega⟩
            · have hro : rOk x = true := by
                rw [List.all_eq_true] at hall
                exact hall x HXM.out
              have he5 : e8 = 5 := by
                have := sStep_err st x hro (by rw [HSS.out]; exact h8)
                rw [HSS.out] at this
                exact this
              subst he5
              have hsv : sSave d s L = (s, 5, d) := by
                have hb2 : (steps s L).2 = 5 := by
                  rw [hg'.out, steps_bad s _ _ x (by rw [HS.out]) (by rw [HS.out]; simp only; rw [HSS.out]; exact h8), HS.out]
                  simp only
                  rw [HSS.out]
                unfold sSave
                rw [if_pos hall, if_neg (by rw [hb2]; decide), hb2]
              have HSV := Lib.hid hsv
              clear y0 y1 y2 y3 x0 x1 x2 x3 z0 z1 z2 z3 hsv hk3 sf hall h8
              have y0 := ks1.cell 0
              have y1 := ks1.cell 1
              have y2 := ks1.cell 2
              have y3 := ks1.cell 3
              have q0 := kz1.cell 0
              have q1 := kz1.cell 1
              have q2 := kz1.cell 2
              have q3 := kz1.cell 3
              have z0 := kz1.free 0
              have z1 := kz1.free 1
              have z2 := kz1.free 2
              have z3 := kz1.free 3
              simp only [List.getElem?_toArray, List.getElem?_cons_zero, List.getElem?_cons_succ] at y0 y1 y2 y3 q0 q1 q2 q3
              have hl1 := ks1.lt
              have hl2 := kz1.lt
              go_wp2_with fail
              exact bodyPost_ret (v := .tuple #[.agg #[.int .i64 s.floor, .int .i64 s.term, .int .i64 s.vote, .slice A n c], .int .i64 5]) (by simp [results, Try.results37, go_sem, q0, q1, q2, q3, hl2]) rfl (rsave_exit HSV.out (fun b h _ => ⟨by have := (HF.out b h).1; omega, .inl h, (HF.out b h).2.2⟩) HG.out (.inl rfl) hsw hdw htw (by omega) (fun h => by have := (HQ.out _ h).2.1; omega))
        · obtain rfl : k = j := by omega
          rw [List.take_of_length_le (by rw [HLM.out]; exact Nat.le_refl _)] at hsteps
          have hsr := hs.step hb
          have hdr := hd.step hb
          have htr := Touch.of_below (g := g) (q := q) hb
          have hFF : ∀ b, ((F b ∨ w.heap.size ≤ b) ∧ b ≠ w.heap.size + 1 ∧ b ≠ g14 ∧ b < wr.heap.size) → b ≠ g ∧ some b ≠ q := by
            intro b h
            rcases h.1 with h | h
            · exact (HF.out b h).2
            · have := HG.out
              exact ⟨by omega, fun e => by have := (HQ.out b e.symm).2.1; omega⟩
          have hq2 : some (w.heap.size + 1) ≠ q := fun e => by have := (HQ.out _ e.symm).2.1; omega
          have hq1 : some w.heap.size ≠ q := fun e => by have := (HQ.out _ e.symm).2.1; omega
          have hq14 : some g14 ≠ q := fun e => by have := (HQ.out _ e.symm).2.1; omega
          have hg0 := HG.out
          have HFF := Lib.hid hFF
          have hkzl := kz.lt
          have hwF : ∀ b, F b → b ≠ w.heap.size + 1 ∧ (F b ∨ w.heap.size ≤ b) := fun b h => ⟨by have := (HF.out b h).1; omega, .inl h⟩
          clear hFF
          by_cases hk0 : k = 0
          · subst hk0
            obtain rfl : L = [] := List.eq_nil_of_length_eq_zero HLM.out
            have HSV := Lib.hid (show sSave d s [] = (s, 0, d) from rfl)
            have y0 := ks.cell 0
            have y1 := ks.cell 1
            have y2 := ks.cell 2
            have y3 := ks.cell 3
            have q0 := kz.cell 0
            have q1 := kz.cell 1
            have q2 := kz.cell 2
            have q3 := kz.cell 3
            have z0 := kz.free 0
            have z1 := kz.free 1
            have z2 := kz.free 2
            have z3 := kz.free 3
            have hl1 := ks.lt
            simp only [List.getElem?_toArray, List.getElem?_cons_zero, List.getElem?_cons_succ] at y0 y1 y2 y3 q0 q1 q2 q3
            clear hsteps
            go_wp2_with fail
            exact bodyPost_ret (v := .tuple #[.agg #[.int .i64 s.floor, .int .i64 s.term, .int .i64 s.vote, .slice A n c], .int .i64 0]) (by simp [results, Try.results37, go_sem, q0, q1, q2, q3, hkzl]) rfl (rsave_exit HSV.out (fun b h _ => ⟨(hwF b h).1, (hwF b h).2, (HF.out b h).2.2⟩) HG.out (.inl rfl) hsr hdr htr (by omega) hq2.symm)
          · have hLne : L ≠ [] := fun h => by have := HLM.out; rw [h] at this; exact hk0 this.symm
            have HLNE := Lib.hid hLne
            have hbn := hown.1
            have hbb := hown.bs
            clear hLne
            have hsv : sSave d s L = if (dAppend d (saveB L)).2 = 0 then
                (if (dSync (dAppend d (saveB L)).1).2 = 0 then (st, 0, (dSync (dAppend d (saveB L)).1).1) else (s, (dSync (dAppend d (saveB L)).1).2, (dSync (dAppend d (saveB L)).1).1))
                else (s, (dAppend d (saveB L)).2, (dAppend d (saveB L)).1) := by
              unfold sSave
              rw [if_pos hall, if_pos (by rw [hsteps]), if_neg HLNE.out, hsteps]
            have HSV0 := Lib.hid hsv
            clear hsv hsteps hall
            go_wp2_with fail
            refine (rappend_any base g q d Al (saveB L) nb cl wr hdr (by omega) hbn (by omega) hbb).mono ?_
            rintro e w10 ⟨q1, rfl, hd1, ht1, hm1⟩
            have HSV1 := HSV0.out
            obtain ⟨d1, e1, hde⟩ : ∃ d1 e1, dAppend d (saveB L) = (d1, e1) := ⟨_, _, rfl⟩
            rw [hde] at HSV1 hd1 ⊢
            simp only at HSV1 hd1 ⊢
            have ks10 := ks.touch ht1 (by omega) hq1
            have kz10 := kz.touch ht1 (by omega) hq2
            have kn10 := kn.touch ht1 (by omega) hq14
            have hs10 := hsr.touch ht1 (fun b h _ => (HF.out b h).2)
            have st10 := hst.touch ht1 (fun b h _ => HFF.out b h)
            have T1 := htr.trans ht1
            have M1 := hm1.pre hbz
            have hbz10 := T1.size
            have hq21 := hm1.not hkzl hq2
            have hq11 := hm1.not (by omega) hq1
            have hq141 := hm1.not hg14 hq14
            have hsz1 := ht1.size
            have HSV2 := Lib.hid HSV1
            clear HSV1 hde HSV0 ks kz kn hst hsr hdr htr hb hown hbb hbn
            by_cases h1 : e1 = 0
            · subst h1
              have HSV3 := HSV2.out
              rw [if_pos rfl] at HSV3
              have HSV4 := Lib.hid HSV3
              clear HSV2 HSV3
              go_wp2_with fail
              refine (rsync_any base g q1 d1 w10 hd1 (by omega)).mono ?_
              rintro e w11 ⟨q2, rfl, hd2, ht2, hm2⟩
              have HSV1 := HSV4.out
              obtain ⟨d2, e2, hde⟩ : ∃ d2 e2, dSync d1 = (d2, e2) := ⟨_, _, rfl⟩
              rw [hde] at HSV1 hd2 ⊢
              simp only at HSV1 hd2 ⊢
              have ks11 := ks10.touch ht2 (by omega) hq11
              have kz11 := kz10.touch ht2 (by omega) hq21
              have kn11 := kn10.touch ht2 (by omega) hq141
              have hs11 := hs10.touch ht2 (fun b h _ => ⟨(HF.out b h).2.1, hm1.not (by have := (HF.out b h).1; omega) (HF.out b h).2.2⟩)
              have st11 := st10.touch ht2 (fun b h _ => ⟨(HFF.out b h).1, hm1.not h.2.2.2 (HFF.out b h).2⟩)
              have T2 := T1.trans2 ht2 M1
              have M2w := hm1.trans hm2 hsz1
              have M2 := M2w.pre hbz
              have hbz11 := T2.size
              have hq22 := M2w.not hkzl hq2
              have HSV2 := Lib.hid HSV1
              clear HSV1 hde HSV4 ks10 kz10 kn10 hs10 st10 T1 ht1 ht2 hd1
              have q0 := kz11.cell 0
              have q1 := kz11.cell 1
              have q2 := kz11.cell 2
              have q3 := kz11.cell 3
              have z0 := kz11.free 0
              have z1 := kz11.free 1
              have z2 := kz11.free 2
              have z3 := kz11.free 3
              have hl9 := kz11.lt
              simp only [List.getElem?_toArray, List.getElem?_cons_zero, List.getElem?_cons_succ] at q0 q1 q2 q3
              by_cases h2 : e2 = 0
              · subst h2
                have HSV3 := HSV2.out
                rw [if_pos rfl] at HSV3
                have HSV := Lib.hid HSV3
                clear HSV3 HSV2
                have p0 := kn11.cell 0
                have p1 := kn11.cell 1
                have p2 := kn11.cell 2
                have p3 := kn11.cell 3
                have hln := kn11.lt
                simp only [List.getElem?_toArray, List.getElem?_cons_zero, List.getElem?_cons_succ] at p0 p1 p2 p3
                go_wp2_with fail
                exact bodyPost_ret (v := .tuple #[.agg #[.int .i64 st.floor, .int .i64 st.term, .int .i64 st.vote, .slice At nt ct], .int .i64 0]) (by simp [results, Try.results37, go_sem, q0, q1, q2, q3, hl9]) rfl (rsave_exit (t := st) HSV.out (fun b h _ => ⟨h.2.1, h.1, M2w.not h.2.2.2 (HFF.out b h).2⟩) HG.out M2 st11 hd2 T2 (by omega) hq22.symm)
              · have HSV3 := HSV2.out
                rw [if_neg h2] at HSV3
                have HSV := Lib.hid HSV3
                clear HSV3 HSV2
                have p0 := ks11.cell 0
                have p1 := ks11.cell 1
                have p2 := ks11.cell 2
                have p3 := ks11.cell 3
                have hln := ks11.lt
                simp only [List.getElem?_toArray, List.getElem?_cons_zero, List.getElem?_cons_succ] at p0 p1 p2 p3
                go_wp2_with fail
                exact bodyPost_ret (v := .tuple #[.agg #[.int .i64 s.floor, .int .i64 s.term, .int .i64 s.vote, .slice A n c], .int .i64 e2]) (by simp [results, Try.results37, go_sem, q0, q1, q2, q3, hl9]) rfl (rsave_exit (t := s) HSV.out (fun b h _ => ⟨(hwF b h).1, (hwF b h).2, M2w.not (by have := (HF.out b h).1; omega) (HF.out b h).2.2⟩) HG.out M2 hs11 hd2 T2 (by omega) hq22.symm)
            · have HSV3 := HSV2.out
              rw [if_neg h1] at HSV3
              have HSV := Lib.hid HSV3
              clear HSV3 HSV2
              have p0 := ks10.cell 0
              have p1 := ks10.cell 1
              have p2 := ks10.cell 2
              have p3 := ks10.cell 3
              have hln := ks10.lt
              have q0 := kz10.cell 0
              have q1 := kz10.cell 1
              have q2 := kz10.cell 2
              have q3 := kz10.cell 3
              have z0 := kz10.free 0
              have z1 := kz10.free 1
              have z2 := kz10.free 2
              have z3 := kz10.free 3
              have hl9 := kz10.lt
              simp only [List.getElem?_toArray, List.getElem?_cons_zero, List.getElem?_cons_succ] at p0 p1 p2 p3 q0 q1 q2 q3
              go_wp2_with fail
              exact bodyPost_ret (v := .tuple #[.agg #[.int .i64 s.floor, .int .i64 s.term, .int .i64 s.vote, .slice A n c], .int .i64 e1]) (by simp [results, Try.results37, go_sem, q0, q1, q2, q3, hl9]) rfl (rsave_exit (t := s) HSV.out (fun b h _ => ⟨(hwF b h).1, (hwF b h).2, hm1.not (by have := (HF.out b h).1; omega) (HF.out b h).2.2⟩) HG.out M1 hs10 hd1 T1 (by omega) hq21.symm)
end Go.Proofs.Ytcgkoojegopfnaa

namespace Go.Proofs.Ytcgkoojegopfnaa
open Go.RowKit
set_option linter.unusedSimpArgs false
set_option linter.unusedVariables false

theorem Blk.ne {w : World} {a b : Nat} {t t' : TypeId} {cs cs' : Array Value} (h : Blk w a t cs) (k : Blk w b t' cs') (ht : t ≠ t') : a ≠ b := fun e => by
  subst e
  unfold Blk at h k
  rw [h] at k
  injection k with k
  injection k with _ k
  exact ht k
theorem Rk.not_T {w : World} {base g k : Nat} {q : Option Nat} {d : Dsk} {t : TypeId} {cs : Array Value} (h : Rk w base g q d) (hk : Blk w k t cs) (ht : t ≠ 5) : q ≠ some k := by
  obtain ⟨_, _, A, n, c, rfl, _, ho⟩ := h
  exact (Own.rowT ho hk ht).symm
theorem Dk.blk {w : World} {base g : Nat} {q : Option Nat} {d : Dsk} (h : Dk w base g q d) : ∃ cs, Blk w g TD cs := by
  obtain ⟨_, _, A, n, c, _, h, _⟩ := h
  exact ⟨_, h⟩
theorem Rk.blk {w : World} {base g : Nat} {q : Option Nat} {d : Dsk} (h : Rk w base g q d) : ∃ cs, Blk w g TR cs := by
  obtain ⟨_, _, A, n, c, _, h, _⟩ := h
  exact ⟨_, h⟩

/-- Blocks that hold neither a disk nor a variable. -/
def FrS (w : World) (g h zs zt : Nat) (q p : Option Nat) (b : Nat) : Prop := b < w.heap.size ∧ b ≠ g ∧ b ≠ h ∧ b ≠ zs ∧ b ≠ zt ∧ some b ≠ q ∧ some b ≠ p
abbrev stCs (t : Stb) (A : Option Addr) (n c : Nat) : Array Value := #[.int .i64 t.floor, .int .i64 t.term, .int .i64 t.vote, .slice A n c]
abbrev set4 (w : World) (z : Nat) (t : Stb) (A : Option Addr) (n c : Nat) : World := (((w.setCell ⟨z, 0, none⟩ (.int .i64 t.floor)).setCell ⟨z, 1, none⟩ (.int .i64 t.term)).setCell ⟨z, 2, none⟩ (.int .i64 t.vote)).setCell ⟨z, 3, none⟩ (.slice A n c)
section
variable {w w' w0 : World} {g h z zs zt base : Nat} {q p q' p' : Option Nat} {t t0 : Stb} {A A0 : Option Addr} {n c n0 c0 : Nat} {d y : Dsk} {F : Nat → Prop}
theorem set4_size : (set4 w z t A n c).heap.size = w.heap.size := by simp [set4]
theorem set4_blk (k : Blk w z TSt (stCs t0 A0 n0 c0)) : Blk (set4 w z t A n c) z TSt (stCs t A n c) := (((k.set 0 (.int .i64 t.floor)).set 1 (.int .i64 t.term)).set 2 (.int .i64 t.vote)).set 3 (.slice A n c)
theorem set4_far {tt : TypeId} {cs : Array Value} (k : Blk w g tt cs) (hg : g ≠ z) : Blk (set4 w z t A n c) g tt cs := (((k.far (p := ⟨z, 0, none⟩) hg _).far (p := ⟨z, 1, none⟩) hg _).far (p := ⟨z, 2, none⟩) hg _).far (p := ⟨z, 3, none⟩) hg _
theorem set4_stf {t1 : Stb} {A1 : Option Addr} {n1 c1 : Nat} (k : StF w F t1 A1 n1 c1) (hF : ¬ F z) : StF (set4 w z t A n c) F t1 A1 n1 c1 := (((k.setN hF 0 _).setN hF 1 _).setN hF 2 _).setN hF 3 _
theorem set4_dk (k : Dk w base g q d) (hg : g ≠ z) (hq : q ≠ some z) : Dk (set4 w z t A n c) base g q d := (((k.setNew hg hq 0 _).setNew hg hq 1 _).setNew hg hq 2 _).setNew hg hq 3 _
theorem set4_rk (k : Rk w base g q d) (hg : g ≠ z) (hq : q ≠ some z) : Rk (set4 w z t A n c) base g q d := (((k.setNew hg hq 0 _).setNew hg hq 1 _).setNew hg hq 2 _).setNew hg hq 3 _
theorem set4_below {B : Nat} (k : Below B w0 w) (hz : B ≤ z) : Below B w0 (set4 w z t A n c) := (((k.setCell hz _).setCell hz _).setCell hz _).setCell hz _

/-- What holds at the head of a round: the disks d and y, in blocks q and p, the same state twice. -/
def RS (w0 w : World) (g h zs zt : Nat) (t : Stb) (d y : Dsk) (q p : Option Nat) : Prop :=
  ∃ A1 n1 c1 A2 n2 c2, Dk w w0.heap.size g q d ∧ Rk w w0.heap.size h p y ∧ (∀ k, q = some k → p ≠ some k) ∧ Blk w zs TSt (stCs t A1 n1 c1) ∧ Blk w zt TSt (stCs t A2 n2 c2) ∧
    StF w (FrS w g h zs zt q p) t A1 n1 c1 ∧ StF w (FrS w g h zs zt q p) t A2 n2 c2 ∧ t.log.length ≤ 70 ∧ zs ≠ zt ∧ w0.heap.size ≤ zs ∧ w0.heap.size ≤ zt ∧ Below w0.heap.size w0 w

/-- None of these blocks is another one. -/
structure Sep (w : World) (g h zs zt : Nat) (q p : Option Nat) : Prop where
  gh : g ≠ h
  sg : zs ≠ g
  sh : zs ≠ h
  tg : zt ≠ g
  th : zt ≠ h
  st : zs ≠ zt
  qh : q ≠ some h
  pg : p ≠ some g
  qs : q ≠ some zs
  qt : q ≠ some zt
  ps : p ≠ some zs
  pt : p ≠ some zt
  qp : ∀ k, q = some k → p ≠ some k
  gl : g < w.heap.size
  hl : h < w.heap.size
  sl : zs < w.heap.size
  tl : zt < w.heap.size
  ql : ∀ k, q = some k → k < w.heap.size
  pl : ∀ k, p = some k → k < w.heap.size
theorem sep_of {B : Nat} {cs cs' : Array Value} (hd : Dk w B g q d) (hr : Rk w B h p y) (hqp : ∀ k, q = some k → p ≠ some k) (ks : Blk w zs TSt cs) (kt : Blk w zt TSt cs') (hst : zs ≠ zt) : Sep w g h zs zt q p := by
  obtain ⟨cd, kd⟩ := hd.blk
  obtain ⟨cr, kr⟩ := hr.blk
  exact ⟨kd.ne kr (by decide), ks.ne kd (by decide), ks.ne kr (by decide), kt.ne kd (by decide), kt.ne kr (by decide), hst, hd.not_T kr (by decide), hr.not_T kd (by decide), hd.not_T ks (by decide), hd.not_T kt (by decide), hr.not_T ks (by decide), hr.not_T kt (by decide), hqp, kd.lt, kr.lt, ks.lt, kt.lt, fun k hk => (hd.q_lt k hk).2.1, fun k hk => (hr.q_lt k hk).2.1⟩
theorem FrS.step (hb : w.heap.size ≤ w'.heap.size) {b : Nat} (k : FrS w g h zs zt q p b) : FrS w' g h zs zt q p b := ⟨Nat.lt_of_lt_of_le k.1 hb, k.2⟩
theorem RS.sep (k : RS w0 w g h zs zt t d y q p) : Sep w g h zs zt q p := by
  obtain ⟨A1, n1, c1, A2, n2, c2, hd, hr, hqp, ks, kt, s1, s2, hl, hst, _⟩ := k
  exact sep_of hd hr hqp ks kt hst
/-- New blocks, and those of the call's own caller. -/
theorem RS.fresh (k : RS w0 w g h zs zt t d y q p) (hw : w.heap.size ≤ w'.heap.size) (b : Nat) (hb : b < w'.heap.size) (hc : b < w0.heap.size ∨ w.heap.size ≤ b) : FrS w' g h zs zt q p b := by
  have s := k.sep
  obtain ⟨A1, n1, c1, A2, n2, c2, hd, hr, hqp, ks, kt, s1, s2, hl, hst, h1, h2, h3⟩ := k
  have hg := hd.ge
  have hh := hr.ge
  have g1 := s.gl
  have g2 := s.hl
  have g3 := s.sl
  have g4 := s.tl
  refine ⟨hb, by omega, by omega, by omega, by omega, fun e => ?_, fun e => ?_⟩
  · have := hd.qge b e.symm
    have := s.ql b e.symm
    omega
  · have := hr.qge b e.symm
    have := s.pl b e.symm
    omega
theorem RS.step (k : RS w0 w g h zs zt t d y q p) (hb : Below w.heap.size w w') : RS w0 w' g h zs zt t d y q p := by
  obtain ⟨A1, n1, c1, A2, n2, c2, hd, hr, hqp, ks, kt, s1, s2, hl, hst, h1, h2, h3⟩ := k
  exact ⟨A1, n1, c1, A2, n2, c2, hd.step hb, hr.step hb, hqp, ks.below hb ks.lt, kt.below hb kt.lt, (s1.step hb).mono fun b h _ => h.step hb.size, (s2.step hb).mono fun b h _ => h.step hb.size, hl, hst, h1, h2, h3.trans (hb.mono h3.size)⟩
/-- Something is done to the program's disk. -/
theorem RS.left (k : RS w0 w g h zs zt t d y q p) {d' : Dsk} (hd' : Dk w' w0.heap.size g q' d') (ht : Touch w w' g q) (hm : Moved w q q') : RS w0 w' g h zs zt t d' y q' p := by
  have s := k.sep
  obtain ⟨A1, n1, c1, A2, n2, c2, hd, hr, hqp, ks, kt, s1, s2, hl, hst, h1, h2, h3⟩ := k
  have hF : ∀ b, FrS w g h zs zt q p b → b < w.heap.size → b ≠ g ∧ some b ≠ q := fun b h _ => ⟨h.2.1, h.2.2.2.2.2.1⟩
  have hF' : ∀ b, FrS w g h zs zt q p b → b < w'.heap.size → FrS w' g h zs zt q' p b := fun b h hlt => ⟨hlt, h.2.1, h.2.2.1, h.2.2.2.1, h.2.2.2.2.1, hm.not h.1 h.2.2.2.2.2.1, h.2.2.2.2.2.2⟩
  refine ⟨A1, n1, c1, A2, n2, c2, hd', hr.kept ht s.gh.symm s.qh.symm s.pg (fun k hk e => s.qp k e hk), fun k hk e => ?_, ks.touch ht s.sg s.qs.symm, kt.touch ht s.tg s.qt.symm, (s1.touch ht hF).mono hF', (s2.touch ht hF).mono hF', hl, hst, h1, h2, ?_⟩
  · rcases hm with rfl | ⟨k2, rfl, hle⟩
    · exact hqp k hk e
    · injection hk with hk
      have := s.pl k e
      omega
  · exact Touch.below h3 ht hd.ge hd.qge
/-- Something is done to the document's disk. -/
theorem RS.right (k : RS w0 w g h zs zt t d y q p) {y' : Dsk} (hr' : Rk w' w0.heap.size h p' y') (ht : Touch w w' h p) (hm : Moved w p p') : RS w0 w' g h zs zt t d y' q p' := by
  have s := k.sep
  obtain ⟨A1, n1, c1, A2, n2, c2, hd, hr, hqp, ks, kt, s1, s2, hl, hst, h1, h2, h3⟩ := k
  have hF : ∀ b, FrS w g h zs zt q p b → b < w.heap.size → b ≠ h ∧ some b ≠ p := fun b h _ => ⟨h.2.2.1, h.2.2.2.2.2.2⟩
  have hF' : ∀ b, FrS w g h zs zt q p b → b < w'.heap.size → FrS w' g h zs zt q p' b := fun b h hlt => ⟨hlt, h.2.1, h.2.2.1, h.2.2.2.1, h.2.2.2.2.1, h.2.2.2.2.2.1, hm.not h.1 h.2.2.2.2.2.2⟩
  refine ⟨A1, n1, c1, A2, n2, c2, hd.kept ht s.gh s.pg.symm s.qh (fun k hk e => s.qp k hk e), hr', fun k hk e => ?_, ks.touch ht s.sh s.ps.symm, kt.touch ht s.th s.pt.symm, (s1.touch ht hF).mono hF', (s2.touch ht hF).mono hF', hl, hst, h1, h2, ?_⟩
  · rcases hm with rfl | ⟨k2, rfl, hle⟩
    · exact hqp k hk e
    · injection e with e
      have := s.ql k hk
      omega
  · exact Touch.below h3 ht hr.ge hr.qge
end

theorem sSave_len (d : Dsk) (s : Stb) (L : List Rcd) (h : s.log.length ≤ 70) : (sSave d s L).1.log.length ≤ 70 := by
  have key : ∀ (L : List Rcd) (s : Stb), s.log.length ≤ 70 → (steps s L).1.log.length ≤ 70 := by
    intro L
    induction L with
    | nil => intro s h; exact h
    | cons r L ih =>
      intro s h
      unfold steps
      split
      · exact ih _ (sStep_len s r h)
      · exact h
  unfold sSave
  split
  · split
    · split
      · exact h
      · split
        · split
          · exact key L s h
          · exact h
        · exact h
    · exact h
  · exact h
end Go.Proofs.Ytcgkoojegopfnaa

namespace Go.Proofs.Ytcgkoojegopfnaa
open Go.RowKit
set_option linter.unusedSimpArgs false
set_option linter.unusedVariables false

/-- The i-th of the rows of four cells is the state s. -/
def StAt (w : World) (F : Nat → Prop) (vs : List Value) (i : Nat) (s : Stb) : Prop :=
  ∃ A n c, vs[i * 4]? = some (.int .i64 s.floor) ∧ vs[i * 4 + 1]? = some (.int .i64 s.term) ∧ vs[i * 4 + 2]? = some (.int .i64 s.vote) ∧ vs[i * 4 + 3]? = some (.slice A n c) ∧ StF w F s A n c
theorem StF.keep {w w' : World} {F : Nat → Prop} {s : Stb} {A : Option Addr} {n c : Nat} (h : StF w F s A n c) (hs : w.heap.size ≤ w'.heap.size) (hk : ∀ b, F b → b < w.heap.size → w'.heap[b]? = w.heap[b]?) : StF w' F s A n c := ⟨h.1, h.2.1, h.2.2.1, h.2.2.2.keep hs hk⟩
theorem StAt.keep {w w' : World} {F : Nat → Prop} {vs : List Value} {i : Nat} {s : Stb} (h : StAt w F vs i s) (hs : w.heap.size ≤ w'.heap.size) (hk : ∀ b, F b → b < w.heap.size → w'.heap[b]? = w.heap[b]?) : StAt w' F vs i s := by
  obtain ⟨A, n, c, h0, h1, h2, h3, h4⟩ := h
  exact ⟨A, n, c, h0, h1, h2, h3, h4.keep hs hk⟩
theorem StAt.mono {w : World} {F F' : Nat → Prop} {vs : List Value} {i : Nat} {s : Stb} (h : StAt w F vs i s) (hF : ∀ b, F b → b < w.heap.size → F' b) : StAt w F' vs i s := by
  obtain ⟨A, n, c, h0, h1, h2, h3, h4⟩ := h
  exact ⟨A, n, c, h0, h1, h2, h3, h4.mono hF⟩
theorem StAt.move {w : World} {F : Nat → Prop} {vs us : List Value} {i j : Nat} {s : Stb} (h : StAt w F vs i s) (t : ∀ k, k < 4 → us[j * 4 + k]? = vs[i * 4 + k]?) : StAt w F us j s := by
  obtain ⟨A, n, c, h0, h1, h2, h3, h4⟩ := h
  exact ⟨A, n, c, (t 0 (by omega)).trans h0, (t 1 (by omega)).trans h1, (t 2 (by omega)).trans h2, (t 3 (by omega)).trans h3, h4⟩

/-- A row of states of the call's own, whose logs lie in blocks of which F holds. -/
def OwnT (w : World) (base : Nat) (F : Nat → Prop) (A : Option Addr) (n c : Nat) (L : List Stb) : Prop :=
  L.length = n ∧ ∃ vs : List Value, Ov w base TSt 4 A n c vs ∧ ∀ i s, L[i]? = some s → StAt w F vs i s
section
variable {w w' : World} {base n c : Nat} {F F' : Nat → Prop} {A : Option Addr} {L : List Stb}
theorem OwnT.keep (h : OwnT w base F A n c L) {row : Option Nat} (hg : w.grownBy w' row) (hne : (Value.slice A n c).ownBlock ≠ row ∨ row = none) (hF : ∀ b, F b → b < w.heap.size → some b ≠ row) : OwnT w' base F A n c L := by
  obtain ⟨hn, vs, ho, hi⟩ := h
  refine ⟨hn, vs, ho.kept hg fun a ha e => ?_, fun i s hs => (hi i s hs).keep hg.size fun b hf hlt => hg.block b hlt (hF b hf hlt)⟩
  subst ha
  rcases hne with h | h
  · exact h e.symm
  · rw [h] at e
    cases e
theorem OwnT.step (h : OwnT w base F A n c L) (hb : Below w.heap.size w w') : OwnT w' base F A n c L := by
  obtain ⟨hn, vs, ho, hi⟩ := h
  exact ⟨hn, vs, ho.step hb, fun i s hs => (hi i s hs).keep hb.size fun b _ hlt => hb.block b hlt⟩
theorem OwnT.mono (h : OwnT w base F A n c L) (hF : ∀ b, F b → b < w.heap.size → F' b) : OwnT w base F' A n c L := by
  obtain ⟨hn, vs, ho, hi⟩ := h
  exact ⟨hn, vs, ho, fun i s hs => (hi i s hs).mono hF⟩
theorem OwnT.cap (h : OwnT w base F A n c L) : n ≤ c ∧ c ≤ maxLen := by
  obtain ⟨_, vs, ho, _⟩ := h
  exact ho.cap
theorem OwnT.row (h : OwnT w base F A n c L) : ∀ k, (Value.slice A n c).ownBlock = some k → base ≤ k ∧ k < w.heap.size ∧ ∃ cs, w.heap[k]? = some (.cells cs TSt (0, 0)) := by
  obtain ⟨_, vs, ho, _⟩ := h
  exact ho.row
theorem OwnT.below {w0 : World} (h : OwnT w w0.heap.size F A n c L) (hb : Below w0.heap.size w0 w) (hg : w.grownBy w' (Value.slice A n c).ownBlock) : Below w0.heap.size w0 w' := by
  obtain ⟨_, vs, ho, _⟩ := h
  exact ho.below hb hg
/-- One of them, in its cells. -/
theorem OwnT.at_ (h : OwnT w base F A n c L) {k : Nat} {s : Stb} (hs : L[k]? = some s) :
    ∃ b off As ns cs, A = some ⟨b, off, none⟩ ∧ b < w.heap.size ∧ w.cell? ⟨b, off + k * 4, none⟩ = some (.int .i64 s.floor) ∧ w.cell? ⟨b, off + k * 4 + 1, none⟩ = some (.int .i64 s.term) ∧ w.cell? ⟨b, off + k * 4 + 2, none⟩ = some (.int .i64 s.vote) ∧ w.cell? ⟨b, off + k * 4 + 3, none⟩ = some (.slice As ns cs) ∧ StF w F s As ns cs := by
  obtain ⟨hn, vs, ho, hi⟩ := h
  have hk : k < L.length := (List.getElem?_eq_some_iff.1 hs).1
  have hl := ho.len
  obtain ⟨b, off, rfl, hb, hc⟩ := ho.rd (by omega)
  obtain ⟨As, ns, cs, e1, e2, e3, e4, e5⟩ := hi k s hs
  refine ⟨b, off, As, ns, cs, rfl, hb, ?_, ?_, ?_, ?_, e5⟩
  · rw [hc _ (by omega), e1]
  · rw [Nat.add_assoc, hc _ (by omega), e2]
  · rw [Nat.add_assoc, hc _ (by omega), e3]
  · rw [Nat.add_assoc, hc _ (by omega), e4]
end
theorem OwnC.kept {w w' : World} {base n c : Nat} {F : Nat → Prop} {A : Option Addr} {L : List Rcd} {row : Option Nat} (h : OwnC w base F A n c L) (hg : w.grownBy w' row) (hne : (Value.slice A n c).ownBlock ≠ row ∨ row = none) (hF : ∀ b, F b → b < w.heap.size → some b ≠ row) : OwnC w' base F A n c L := by
  obtain ⟨hn, vs, ho, hi⟩ := h
  refine ⟨hn, vs, ho.kept hg fun a ha e => ?_, fun i s hs => (hi i s hs).keep hg.size fun b hf hlt => hg.block b hlt (hF b hf hlt)⟩
  subst ha
  rcases hne with h | h
  · exact h e.symm
  · rw [h] at e
    cases e
theorem OwnC.mono {w : World} {base n c : Nat} {F F' : Nat → Prop} {A : Option Addr} {L : List Rcd} (h : OwnC w base F A n c L) (hF : ∀ b, F b → b < w.heap.size → F' b) : OwnC w base F' A n c L := by
  obtain ⟨hn, vs, ho, hi⟩ := h
  exact ⟨hn, vs, ho, fun i x hx => (hi i x hx).mono hF⟩
theorem OwnC.row {w : World} {base n c : Nat} {F : Nat → Prop} {A : Option Addr} {L : List Rcd} (h : OwnC w base F A n c L) : ∀ k, (Value.slice A n c).ownBlock = some k → base ≤ k ∧ k < w.heap.size ∧ ∃ cs, w.heap[k]? = some (.cells cs TRec (0, 0)) := by
  obtain ⟨_, vs, ho, _⟩ := h
  exact ho.row
theorem Rc.take {w : World} {F : Nat → Prop} {A : Option Addr} {L : List Rcd} (h : Rc w F A L) (n : Nat) : Rc w F A (L.take n) := by
  obtain ⟨vs, h1, h2, h3⟩ := h
  refine ⟨vs.take (n * 4), by rw [List.length_take, List.length_take, h1, Nat.min_def, Nat.min_def]; split <;> split <;> omega, fun hl => ?_, fun i x hx => ?_⟩
  · obtain ⟨b, off, rfl, hf, hb, hc⟩ := h2 (by simp at hl; omega)
    refine ⟨b, off, rfl, hf, hb, fun i hi => ?_⟩
    have hi' : i < n * 4 ∧ i < vs.length := by simp at hi; omega
    rw [hc i hi'.2, List.getElem?_take, if_pos hi'.1]
  · rw [List.getElem?_take] at hx
    split at hx
    · rename_i hi
      exact (h3 i x hx).move fun j hj => by rw [List.getElem?_take, if_pos (by omega)]
    · cases hx

theorem infoStb : (Try.prog.info? TSt).map (fun i => (i.zero, i.size, i.bytes)) = some (some (.agg #[.int .i64 0, .int .i64 0, .int .i64 0, .slice none 0 0]), 4, 48) := by kernel_rfl
/-- append of a state onto a row of the call's own: the run. -/
theorem run_appT {w : World} (ty : TypeId) {base n c cx B : Nat} {F : Nat → Prop} {A Ax : Option Addr} {L : List Stb} {s : Stb} (hown : OwnT w base F A n c L) {vs2 : List Value} (hl2 : vs2.length = 4) (hr : Rd w B Ax vs2) (hin : StAt w F vs2 0 s) (hone : ∀ u ∈ vs2, u.oneCell' = true)
    (hbytes : n + 1 ≤ 1000000) (hbase : base ≤ w.heap.size) (hF : ∀ b, F b → b < w.heap.size → some b ≠ (Value.slice A n c).ownBlock) :
    ∃ A' c' w', (Builtin.append_ #[69, 69] ty #[.slice A n c, .slice Ax 1 cx]).run Try.prog w = .ok (.slice A' (n + 1) c') w' ∧ OwnT w' base F A' (n + 1) c' (L ++ [s]) ∧ w.grownBy w' (Value.slice A n c).ownBlock ∧ (A' = A ∨ A' = some ⟨w.heap.size, 0, none⟩) := by
  obtain ⟨i, hi, hz, hsz, hby⟩ := info_parts infoStb
  obtain ⟨hLn, vs, hov, hvi⟩ := id hown
  obtain ⟨A', c', w', hrun, ho', hg', hA'⟩ := run_append_rd (P := Try.prog) 69 ty TSt i _ 4 48 Try.underlying69 hi hz hsz hby rfl (by omega) hov (m := 1) (c2 := cx) (by omega) hr hone (by omega) (by omega) hbase
  refine ⟨A', c', w', hrun, ⟨by rw [List.length_append, hLn]; rfl, _, ho', fun j y hy => ?_⟩, hg', hA'⟩
  have hlen := hov.len
  have hkeep : ∀ b, F b → b < w.heap.size → w'.heap[b]? = w.heap[b]? := fun b hf hb => hg'.block b hb (hF b hf hb)
  by_cases hj : j < L.length
  · rw [List.getElem?_append_left hj] at hy
    exact ((hvi j y hy).move fun k hk => List.getElem?_append_left (by omega)).keep hg'.size hkeep
  · rw [List.getElem?_append_right (by omega)] at hy
    have hj0 : j - L.length = 0 := by
      have := (List.getElem?_eq_some_iff.1 hy).1
      simpa using this
    rw [hj0] at hy
    obtain rfl : s = y := by simpa using hy
    exact (hin.move fun k hk => by
      rw [List.getElem?_append_right (by omega), show j * 4 + k - vs.length = 0 * 4 + k by omega]).keep hg'.size hkeep

theorem appT {w : World} {ops : Array Oper} {rest : List Oper} {o : Oper} {a : Act} {Q : Exit → Act → World → Prop} (hgd : o.guard = none) (s x : Operand)
    (ho : o.op = .call { callee := .builtin .append, args := #[s, x], argTypes := #[69, 69] })
    {base n c cx B : Nat} {F : Nat → Prop} {A Ax : Option Addr} {L : List Stb} {st : Stb} (hs : a.eval s = .slice A n c) (hown : OwnT w base F A n c L) (hx : a.eval x = .slice Ax 1 cx)
    {vs2 : List Value} (hl2 : vs2.length = 4) (hr : Rd w B Ax vs2) (hin : StAt w F vs2 0 st) (hone : ∀ u ∈ vs2, u.oneCell' = true)
    (hbytes : n + 1 ≤ 1000000) (hbase : base ≤ w.heap.size) (hF : ∀ b, F b → b < w.heap.size → some b ≠ (Value.slice A n c).ownBlock)
    (h : ∀ A' c' w', OwnT w' base F A' (n + 1) c' (L ++ [st]) → w.grownBy w' (Value.slice A n c).ownBlock → (A' = A ∨ A' = some ⟨w.heap.size, 0, none⟩) → wpList Try.prog ops Q rest (a.put o.dst (.slice A' (n + 1) c')) w') :
    wpList Try.prog ops Q (o :: rest) a w :=
  wpList_plain hgd fun _ hK => by
    obtain ⟨A', c', w', hrun, h2, h3, h4⟩ := run_appT o.type hown (cx := cx) hl2 hr hin hone hbytes hbase hF
    have h5 := hK _ _ (h A' c' w' h2 h3 h4)
    unfold Oper.wp
    simp [execOp, ho, resolve, invoke, builtin, hs, hx, Result.andThen]
    rw [hrun]
    exact h5
end Go.Proofs.Ytcgkoojegopfnaa

namespace Go.Proofs.Ytcgkoojegopfnaa
open Go.RowKit
set_option linter.unusedSimpArgs false
set_option linter.unusedVariables false

theorem Ov.same {w w' : World} {base size n c : Nat} {E : TypeId} {A : Option Addr} {vs : List Value} (h : Ov w base E size A n c vs) (hk : ∀ k, (Value.slice A n c).ownBlock = some k → w'.heap[k]? = w.heap[k]?) : Ov w' base E size A n c vs := by
  obtain ⟨hl, hv⟩ := h
  refine ⟨hl, ?_⟩
  rcases hv with hv | ⟨k, cap, cur, hv, hbk, h2, r⟩
  · exact .inl hv
  · exact .inr ⟨k, cap, cur, hv, hbk, (hk k (by rw [hv]; rfl)).trans h2, r⟩
theorem OwnT.same {w w' : World} {base n c : Nat} {F : Nat → Prop} {A : Option Addr} {L : List Stb} (h : OwnT w base F A n c L) (hs : w.heap.size ≤ w'.heap.size) (hk : ∀ k, (Value.slice A n c).ownBlock = some k → w'.heap[k]? = w.heap[k]?) (hF : ∀ b, F b → b < w.heap.size → w'.heap[b]? = w.heap[b]?) : OwnT w' base F A n c L := by
  obtain ⟨hn, vs, ho, hi⟩ := h
  exact ⟨hn, vs, ho.same hk, fun i s h => (hi i s h).keep hs hF⟩
theorem OwnC.same {w w' : World} {base n c : Nat} {F : Nat → Prop} {A : Option Addr} {L : List Rcd} (h : OwnC w base F A n c L) (hs : w.heap.size ≤ w'.heap.size) (hk : ∀ k, (Value.slice A n c).ownBlock = some k → w'.heap[k]? = w.heap[k]?) (hF : ∀ b, F b → b < w.heap.size → w'.heap[b]? = w.heap[b]?) : OwnC w' base F A n c L := by
  obtain ⟨hn, vs, ho, hi⟩ := h
  exact ⟨hn, vs, ho.same hk, fun i s h => (hi i s h).keep hs hF⟩

/-- Blocks that hold neither the disk nor a variable nor a row. -/
def FR (w : World) (g : Nat) (zs : List Nat) (q rs ra : Option Nat) (b : Nat) : Prop := b < w.heap.size ∧ b ≠ g ∧ b ∉ zs ∧ some b ≠ q ∧ some b ≠ rs ∧ some b ≠ ra
abbrev ow (A : Option Addr) (n c : Nat) : Option Nat := (Value.slice A n c).ownBlock

structure RP (w0 w : World) (g : Nat) (q : Option Nat) (d : Dsk) (V : List (Nat × Stb)) (As : Option Addr) (ns cs : Nat) (ST : List Stb) (Aa : Option Addr) (na ca : Nat) (L : List Rcd) (X : List (Option Addr × List Rcd)) : Prop where
  dk : Dk w w0.heap.size g q d
  vs : ∀ v ∈ V, w0.heap.size ≤ v.1 ∧ v.2.log.length ≤ 70 ∧ ∃ A n c, Blk w v.1 TSt (stCs v.2 A n c) ∧ StF w (FR w g (V.map Prod.fst) q (ow As ns cs) (ow Aa na ca)) v.2 A n c
  nd : (V.map Prod.fst).Nodup
  rs : ∀ v ∈ V, ow As ns cs ≠ some v.1
  st : OwnT w w0.heap.size (FR w g (V.map Prod.fst) q (ow As ns cs) (ow Aa na ca)) As ns cs ST
  al : OwnC w w0.heap.size (FR w g (V.map Prod.fst) q (ow As ns cs) (ow Aa na ca)) Aa na ca L
  sl : ∀ s ∈ ST, s.log.length ≤ 70
  rd : ∀ x ∈ X, Rc w (FR w g (V.map Prod.fst) q (ow As ns cs) (ow Aa na ca)) x.1 x.2
  bl : Below w0.heap.size w0 w

theorem row_ne {w : World} {a b : Nat} {t t' : TypeId} {cs cs' : Array Value} (h : w.heap[a]? = some (.cells cs t (0, 0))) (k : w.heap[b]? = some (.cells cs' t' (0, 0))) (ht : t ≠ t') : a ≠ b := Blk.ne h k ht

section
variable {w0 w w' : World} {g : Nat} {q q' : Option Nat} {d d' : Dsk} {V V' : List (Nat × Stb)} {As As' Aa Aa' : Option Addr} {ns cs cs' na ca ca' : Nat} {ST : List Stb} {L : List Rcd} {X X' : List (Option Addr × List Rcd)} {t t' : Stb} {z n c : Nat} {A : Option Addr}

theorem RP.zg (h : RP w0 w g q d V As ns cs ST Aa na ca L X) {v : Nat × Stb} (hv : v ∈ V) : v.1 ≠ g ∧ some v.1 ≠ q ∧ v.1 < w.heap.size ∧ some v.1 ≠ ow Aa na ca ∧ some v.1 ≠ ow As ns cs := by
  obtain ⟨_, _, A, n, c, hb, _⟩ := h.vs v hv
  obtain ⟨cd, kd⟩ := h.dk.blk
  refine ⟨hb.ne kd (by decide), (h.dk.not_T hb (by decide)).symm, hb.lt, fun e => ?_, fun e => h.rs v hv e.symm⟩
  obtain ⟨_, _, cs, hr⟩ := h.al.row v.1 e.symm
  exact row_ne hb hr (by decide) rfl
theorem RP.rows (h : RP w0 w g q d V As ns cs ST Aa na ca L X) : (∀ k, ow As ns cs = some k → w0.heap.size ≤ k ∧ k < w.heap.size ∧ k ≠ g ∧ some k ≠ q ∧ some k ≠ ow Aa na ca) ∧ (∀ k, ow Aa na ca = some k → w0.heap.size ≤ k ∧ k < w.heap.size ∧ k ≠ g ∧ some k ≠ q ∧ some k ≠ ow As ns cs) := by
  obtain ⟨cd, kd⟩ := h.dk.blk
  constructor
  · intro k hk
    obtain ⟨h1, h2, cs, hr⟩ := h.st.row k hk
    refine ⟨h1, h2, row_ne hr kd (by decide), (h.dk.not_T hr (by decide)).symm, fun e => ?_⟩
    obtain ⟨_, _, cs', hr'⟩ := h.al.row k e.symm
    exact row_ne hr hr' (by decide) rfl
  · intro k hk
    obtain ⟨h1, h2, cs, hr⟩ := h.al.row k hk
    refine ⟨h1, h2, row_ne hr kd (by decide), (h.dk.not_T hr (by decide)).symm, fun e => ?_⟩
    obtain ⟨_, _, cs', hr'⟩ := h.st.row k e.symm
    exact row_ne hr hr' (by decide) rfl
theorem RP.gl (h : RP w0 w g q d V As ns cs ST Aa na ca L X) : g < w.heap.size := h.dk.g_lt
theorem RP.ql (h : RP w0 w g q d V As ns cs ST Aa na ca L X) : ∀ k, q = some k → k < w.heap.size := fun k hk => (h.dk.q_lt k hk).2.1

/-- All but new blocks is as it was. -/
theorem RP.step (h : RP w0 w g q d V As ns cs ST Aa na ca L X) (hb : Below w.heap.size w w') : RP w0 w' g q d V As ns cs ST Aa na ca L X := by
  have hF : ∀ b, FR w g (V.map Prod.fst) q (ow As ns cs) (ow Aa na ca) b → b < w'.heap.size → FR w' g (V.map Prod.fst) q (ow As ns cs) (ow Aa na ca) b := fun b hf hlt => ⟨hlt, hf.2⟩
  refine ⟨h.dk.step hb, fun v hv => ?_, h.nd, h.rs, (h.st.step hb).mono hF, (h.al.step hb).mono hF, h.sl, fun x hx => ((h.rd x hx).step hb).mono hF, h.bl.trans (hb.mono h.bl.size)⟩
  obtain ⟨h1, h2, A, n, c, h3, h4⟩ := h.vs v hv
  exact ⟨h1, h2, A, n, c, h3.below hb h3.lt, (h4.step hb).mono hF⟩
/-- Something is done to the disk. -/
theorem RP.disk (h : RP w0 w g q d V As ns cs ST Aa na ca L X) (hd : Dk w' w0.heap.size g q' d') (ht : Touch w w' g q) (hm : Moved w q q') : RP w0 w' g q' d' V As ns cs ST Aa na ca L X := by
  have hF : ∀ b, FR w g (V.map Prod.fst) q (ow As ns cs) (ow Aa na ca) b → b < w'.heap.size → FR w' g (V.map Prod.fst) q' (ow As ns cs) (ow Aa na ca) b := fun b hf hlt => ⟨hlt, hf.2.1, hf.2.2.1, hm.not hf.1 hf.2.2.2.1, hf.2.2.2.2⟩
  have hK : ∀ b, FR w g (V.map Prod.fst) q (ow As ns cs) (ow Aa na ca) b → b < w.heap.size → w'.heap[b]? = w.heap[b]? := fun b hf hlt => ht.block b hlt hf.2.1 hf.2.2.2.1
  obtain ⟨r1, r2⟩ := h.rows
  refine ⟨hd, fun v hv => ?_, h.nd, h.rs, (h.st.same ht.size (fun k hk => ht.block k (r1 k hk).2.1 (r1 k hk).2.2.1 (r1 k hk).2.2.2.1) hK).mono hF, (h.al.same ht.size (fun k hk => ht.block k (r2 k hk).2.1 (r2 k hk).2.2.1 (r2 k hk).2.2.2.1) hK).mono hF, h.sl, fun x hx => ((h.rd x hx).keep ht.size hK).mono hF, Touch.below h.bl ht h.dk.ge h.dk.qge⟩
  obtain ⟨h1, h2, A, n, c, h3, h4⟩ := h.vs v hv
  obtain ⟨z1, z2, _⟩ := h.zg hv
  exact ⟨h1, h2, A, n, c, h3.touch ht z1 z2, (h4.keep ht.size hK).mono hF⟩
/-- Fewer variables are looked at. -/
theorem RP.sub (h : RP w0 w g q d V As ns cs ST Aa na ca L X) (hm : ∀ v ∈ V', v ∈ V) (hnd : (V'.map Prod.fst).Nodup) (hmx : ∀ x ∈ X', x ∈ X) : RP w0 w g q d V' As ns cs ST Aa na ca L X' := by
  have hz : ∀ b, b ∈ V'.map Prod.fst → b ∈ V.map Prod.fst := fun b hb => by
    obtain ⟨v, hv, rfl⟩ := List.mem_map.1 hb
    exact List.mem_map.2 ⟨v, hm v hv, rfl⟩
  have hF : ∀ b, FR w g (V.map Prod.fst) q (ow As ns cs) (ow Aa na ca) b → b < w.heap.size → FR w g (V'.map Prod.fst) q (ow As ns cs) (ow Aa na ca) b := fun b hf _ => ⟨hf.1, hf.2.1, fun e => hf.2.2.1 (hz b e), hf.2.2.2⟩
  refine ⟨h.dk, fun v hv => ?_, hnd, fun v hv => h.rs v (hm v hv), h.st.mono hF, h.al.mono hF, h.sl, fun x hx => (h.rd x (hmx x hx)).mono hF, h.bl⟩
  obtain ⟨h1, h2, A, n, c, h3, h4⟩ := h.vs v (hm v hv)
  exact ⟨h1, h2, A, n, c, h3, h4.mono hF⟩
/-- A new variable. -/
theorem RP.new (h : RP w0 w g q d V As ns cs ST Aa na ca L X) (hs : StF w (FR w g (V.map Prod.fst) q (ow As ns cs) (ow Aa na ca)) t A n c) (hl : t.log.length ≤ 70) :
    RP w0 (w.alloc (.cells (stCs t A n c) TSt)) g q d ((w.heap.size, t) :: V) As ns cs ST Aa na ca L X := by
  have hb : Below w.heap.size w (w.alloc (.cells (stCs t A n c) TSt)) := (Below.refl _ _).alloc (Nat.le_refl _) _
  have hF : ∀ b, FR w g (V.map Prod.fst) q (ow As ns cs) (ow Aa na ca) b → b < (w.alloc (.cells (stCs t A n c) TSt)).heap.size → FR (w.alloc (.cells (stCs t A n c) TSt)) g (((w.heap.size, t) :: V).map Prod.fst) q (ow As ns cs) (ow Aa na ca) b := fun b hf hlt => ⟨hlt, hf.2.1, fun e => by
    rw [List.map_cons, List.mem_cons] at e
    rcases e with e | e
    · have := hf.1
      have : b = w.heap.size := e
      omega
    · exact hf.2.2.1 e, hf.2.2.2⟩
  refine ⟨h.dk.step hb, fun v hv => ?_, ?_, fun v hv => ?_, (h.st.step hb).mono hF, (h.al.step hb).mono hF, h.sl, fun x hx => ((h.rd x hx).step hb).mono hF, h.bl.trans (hb.mono h.bl.size)⟩
  · rcases List.mem_cons.1 hv with rfl | hv
    · exact ⟨h.bl.size, hl, A, n, c, Blk.new w TSt _, (hs.step hb).mono hF⟩
    · obtain ⟨h1, h2, A, n, c, h3, h4⟩ := h.vs v hv
      exact ⟨h1, h2, A, n, c, h3.below hb h3.lt, (h4.step hb).mono hF⟩
  · rw [List.map_cons, List.nodup_cons]
    refine ⟨fun e => ?_, h.nd⟩
    obtain ⟨v, hv, e⟩ := List.mem_map.1 e
    have := (h.zg hv).2.2.1
    have : v.1 = w.heap.size := e
    omega
  · rcases List.mem_cons.1 hv with rfl | hv
    · intro e
      have := (h.rows.1 _ e).2.1
      have : w.heap.size < w.heap.size := this
      omega
    · exact h.rs v hv
/-- A variable is set. -/
theorem RP.set (h : RP w0 w g q d ((z, t) :: V) As ns cs ST Aa na ca L X) (hs : StF w (FR w g (((z, t) :: V).map Prod.fst) q (ow As ns cs) (ow Aa na ca)) t' A n c) (hl : t'.log.length ≤ 70) :
    RP w0 (set4 w z t' A n c) g q d ((z, t') :: V) As ns cs ST Aa na ca L X := by
  have hz : ∀ b, FR w g (((z, t) :: V).map Prod.fst) q (ow As ns cs) (ow Aa na ca) b → b ≠ z := fun b hf e => hf.2.2.1 (by rw [e]; simp)
  have hk : ∀ b, b ≠ z → (set4 w z t' A n c).heap[b]? = w.heap[b]? := fun b hb =>
    (Below.heap_setCell _ ⟨z, 3, none⟩ _ b hb).trans ((Below.heap_setCell _ ⟨z, 2, none⟩ _ b hb).trans ((Below.heap_setCell _ ⟨z, 1, none⟩ _ b hb).trans (Below.heap_setCell _ ⟨z, 0, none⟩ _ b hb)))
  have hF : ∀ b, FR w g (((z, t) :: V).map Prod.fst) q (ow As ns cs) (ow Aa na ca) b → b < (set4 w z t' A n c).heap.size → FR (set4 w z t' A n c) g (((z, t') :: V).map Prod.fst) q (ow As ns cs) (ow Aa na ca) b := fun b hf hlt => ⟨hlt, hf.2⟩
  have hsz : w.heap.size ≤ (set4 w z t' A n c).heap.size := by rw [set4_size]; exact Nat.le_refl _
  obtain ⟨z1, z2, z3, z4, z5⟩ := h.zg (v := (z, t)) List.mem_cons_self
  obtain ⟨y1, y2, A0, n0, c0, y3, y4⟩ := h.vs (z, t) List.mem_cons_self
  have hnF : ¬ FR w g (((z, t) :: V).map Prod.fst) q (ow As ns cs) (ow Aa na ca) z := fun hf => hz z hf rfl
  refine ⟨set4_dk h.dk z1.symm z2.symm, fun v hv => ?_, h.nd, fun v hv => ?_, (h.st.same hsz (fun k e => hk k (fun e2 => z5 (by rw [show (z, t).1 = k from e2.symm]; exact e.symm))) (fun b hf _ => hk b (hz b hf))).mono hF, (h.al.same hsz (fun k e => hk k (fun e2 => z4 (by rw [show (z, t).1 = k from e2.symm]; exact e.symm))) (fun b hf _ => hk b (hz b hf))).mono hF, h.sl, fun x hx => ((h.rd x hx).keep hsz (fun b hf _ => hk b (hz b hf))).mono hF, set4_below h.bl y1⟩
  · rcases List.mem_cons.1 hv with rfl | hv
    · exact ⟨y1, hl, A, n, c, set4_blk y3, (set4_stf hs hnF).mono hF⟩
    · obtain ⟨h1, h2, A1, n1, c1, h3, h4⟩ := h.vs v (List.mem_cons_of_mem _ hv)
      refine ⟨h1, h2, A1, n1, c1, set4_far h3 (fun e => ?_), (set4_stf h4 hnF).mono hF⟩
      have hnd := h.nd
      rw [List.map_cons, List.nodup_cons] at hnd
      exact hnd.1 (List.mem_map.2 ⟨v, hv, e⟩)
  · rcases List.mem_cons.1 hv with rfl | hv
    · exact h.rs (z, t) List.mem_cons_self
    · exact h.rs v (List.mem_cons_of_mem _ hv)
/-- A state is put behind the others. -/
theorem RP.appS (h : RP w0 w g q d V As ns cs ST Aa na ca L X) (hl : t.log.length ≤ 70) (ho : OwnT w' w0.heap.size (FR w g (V.map Prod.fst) q (ow As ns cs) (ow Aa na ca)) As' (ns + 1) cs' (ST ++ [t])) (hg : w.grownBy w' (ow As ns cs)) (hA : As' = As ∨ As' = some ⟨w.heap.size, 0, none⟩) :
    RP w0 w' g q d V As' (ns + 1) cs' (ST ++ [t]) Aa na ca L X := by
  have how : ∀ b, some b ≠ ow As ns cs → b < w.heap.size → some b ≠ ow As' (ns + 1) cs' := fun b hb hlt e => by
    rcases hA with rfl | rfl
    · apply hb
      cases As' with
      | none => cases e
      | some a => exact e
    · have : b = w.heap.size := by injection e
      omega
  have hF : ∀ b, FR w g (V.map Prod.fst) q (ow As ns cs) (ow Aa na ca) b → b < w'.heap.size → FR w' g (V.map Prod.fst) q (ow As' (ns + 1) cs') (ow Aa na ca) b := fun b hf hlt => ⟨hlt, hf.2.1, hf.2.2.1, hf.2.2.2.1, how b hf.2.2.2.2.1 hf.1, hf.2.2.2.2.2⟩
  have hK : ∀ b, FR w g (V.map Prod.fst) q (ow As ns cs) (ow Aa na ca) b → b < w.heap.size → w'.heap[b]? = w.heap[b]? := fun b hf hlt => hg.block b hlt hf.2.2.2.2.1
  obtain ⟨r1, r2⟩ := h.rows
  have hgr : some g ≠ ow As ns cs := fun e => (r1 g e.symm).2.2.1 rfl
  have hqr : ∀ k, q = some k → some k ≠ ow As ns cs := fun k hk e => (r1 k e.symm).2.2.2.1 hk.symm
  have ht : Touch w w' (w.heap.size) (ow As ns cs) := ⟨hg.os, hg.tape, hg.output, hg.size, fun k hk _ h2 => hg.block k hk h2⟩
  refine ⟨h.dk.kept ht (by have := h.gl; omega) hgr (fun e => by have := h.ql _ e; omega) (fun k hk e => hqr k hk e.symm), fun v hv => ?_, h.nd, fun v hv e => ?_, ho.mono hF, (h.al.same hg.size (fun k hk => hg.block k (r2 k hk).2.1 (r2 k hk).2.2.2.2) hK).mono hF, fun s hs => ?_, fun x hx => ((h.rd x hx).keep hg.size hK).mono hF, OwnT.below h.st h.bl hg⟩
  · obtain ⟨h1, h2, A, n, c, h3, h4⟩ := h.vs v hv
    obtain ⟨z1, z2, z3, z4, z5⟩ := h.zg hv
    exact ⟨h1, h2, A, n, c, (hg.block v.1 h3.lt z5).trans h3, (h4.keep hg.size hK).mono hF⟩
  · obtain ⟨z1, z2, z3, z4, z5⟩ := h.zg hv
    exact how v.1 z5 z3 e.symm
  · rcases List.mem_append.1 hs with hs | hs
    · exact h.sl s hs
    · rw [List.mem_singleton.1 hs]; exact hl
/-- A record is put behind the others. -/
theorem RP.appA {r : Rcd} (h : RP w0 w g q d V As ns cs ST Aa na ca L X) (ho : OwnC w' w0.heap.size (FR w g (V.map Prod.fst) q (ow As ns cs) (ow Aa na ca)) Aa' (na + 1) ca' (L ++ [r])) (hg : w.grownBy w' (ow Aa na ca)) (hA : Aa' = Aa ∨ Aa' = some ⟨w.heap.size, 0, none⟩) :
    RP w0 w' g q d V As ns cs ST Aa' (na + 1) ca' (L ++ [r]) X := by
  have how : ∀ b, some b ≠ ow Aa na ca → b < w.heap.size → some b ≠ ow Aa' (na + 1) ca' := fun b hb hlt e => by
    rcases hA with rfl | rfl
    · apply hb
      cases Aa' with
      | none => cases e
      | some a => exact e
    · have : b = w.heap.size := by injection e
      omega
  have hF : ∀ b, FR w g (V.map Prod.fst) q (ow As ns cs) (ow Aa na ca) b → b < w'.heap.size → FR w' g (V.map Prod.fst) q (ow As ns cs) (ow Aa' (na + 1) ca') b := fun b hf hlt => ⟨hlt, hf.2.1, hf.2.2.1, hf.2.2.2.1, hf.2.2.2.2.1, how b hf.2.2.2.2.2 hf.1⟩
  have hK : ∀ b, FR w g (V.map Prod.fst) q (ow As ns cs) (ow Aa na ca) b → b < w.heap.size → w'.heap[b]? = w.heap[b]? := fun b hf hlt => hg.block b hlt hf.2.2.2.2.2
  obtain ⟨r1, r2⟩ := h.rows
  have hgr : some g ≠ ow Aa na ca := fun e => (r2 g e.symm).2.2.1 rfl
  have hqr : ∀ k, q = some k → some k ≠ ow Aa na ca := fun k hk e => (r2 k e.symm).2.2.2.1 hk.symm
  have ht : Touch w w' (w.heap.size) (ow Aa na ca) := ⟨hg.os, hg.tape, hg.output, hg.size, fun k hk _ h2 => hg.block k hk h2⟩
  refine ⟨h.dk.kept ht (by have := h.gl; omega) hgr (fun e => by have := h.ql _ e; omega) (fun k hk e => hqr k hk e.symm), fun v hv => ?_, h.nd, h.rs, (h.st.same hg.size (fun k hk => hg.block k (r1 k hk).2.1 (r1 k hk).2.2.2.2) hK).mono hF, ho.mono hF, h.sl, fun x hx => ((h.rd x hx).keep hg.size hK).mono hF, OwnC.below h.al h.bl hg⟩
  obtain ⟨h1, h2, A, n, c, h3, h4⟩ := h.vs v hv
  obtain ⟨z1, z2, z3, z4, z5⟩ := h.zg hv
  exact ⟨h1, h2, A, n, c, (hg.block v.1 h3.lt z4).trans h3, (h4.keep hg.size hK).mono hF⟩
/-- One more row of records is read. -/
theorem RP.read (h : RP w0 w g q d V As ns cs ST Aa na ca L X) {R : Option Addr} {M : List Rcd} (hr : Rc w (FR w g (V.map Prod.fst) q (ow As ns cs) (ow Aa na ca)) R M) : RP w0 w g q d V As ns cs ST Aa na ca L ((R, M) :: X) :=
  ⟨h.dk, h.vs, h.nd, h.rs, h.st, h.al, h.sl, (fun x hx => by
    rcases List.mem_cons.1 hx with rfl | hx
    · exact hr
    · exact h.rd x hx), h.bl⟩
/-- New blocks, and those of the call's own caller. -/
theorem RP.fresh (h : RP w0 w g q d V As ns cs ST Aa na ca L X) (hw : w.heap.size ≤ w'.heap.size) (b : Nat) (hb : b < w'.heap.size) (hc : b < w0.heap.size ∨ w.heap.size ≤ b) : FR w' g (V.map Prod.fst) q (ow As ns cs) (ow Aa na ca) b := by
  obtain ⟨r1, r2⟩ := h.rows
  have hg := h.dk.ge
  have g1 := h.gl
  refine ⟨hb, by omega, fun e => ?_, fun e => ?_, fun e => ?_, fun e => ?_⟩
  · obtain ⟨v, hv, rfl⟩ := List.mem_map.1 e
    have := (h.zg hv).2.2.1
    have := (h.vs v hv).1
    omega
  · have := h.dk.qge b e.symm
    have := h.ql b e.symm
    omega
  · obtain ⟨h1, h2, _⟩ := r1 b e.symm
    omega
  · obtain ⟨h1, h2, _⟩ := r2 b e.symm
    omega
end
end Go.Proofs.Ytcgkoojegopfnaa

namespace Go.Proofs.Ytcgkoojegopfnaa
open Go.RowKit
set_option linter.unusedSimpArgs false
set_option linter.unusedVariables false

/-- What the bytes of a disk say, from a state on: the state, and how many bytes are used. -/
def repF : Nat → Stb → List UInt8 → Stb × Nat
  | 0, s, _ => (s, 0)
  | f + 1, s, b =>
    if (ftake b).2.2 = 0 then
      if (rTake (ftake b).1).2 = 0 then
        if (sStep s (rTake (ftake b).1).1).2 = 0 then
          ((repF f (sStep s (rTake (ftake b).1).1).1 (b.drop (ftake b).2.1)).1, (ftake b).2.1 + (repF f (sStep s (rTake (ftake b).1).1).1 (b.drop (ftake b).2.1)).2)
        else (s, 0)
      else (s, 0)
    else (s, 0)
def repS (s : Stb) (b : List UInt8) : Stb × Nat := repF (b.length + 1) s b
theorem repF_more (f : Nat) : ∀ (m : Nat) (s : Stb) (b : List UInt8), b.length < f → b.length < m → repF f s b = repF m s b := by
  induction f with
  | zero => intro m s b h; omega
  | succ f ih =>
    intro m s b hf hm
    cases m with
    | zero => omega
    | succ m =>
      unfold repF
      by_cases h1 : (ftake b).2.2 = 0
      · have hs := ftake_size b h1
        rw [if_pos h1, if_pos h1, ih m _ (b.drop (ftake b).2.1) (by rw [List.length_drop]; omega) (by rw [List.length_drop]; omega)]
      · rw [if_neg h1, if_neg h1]
theorem repS_next {s : Stb} {b : List UInt8} (h1 : (ftake b).2.2 = 0) (h2 : (rTake (ftake b).1).2 = 0) (h3 : (sStep s (rTake (ftake b).1).1).2 = 0) :
    repS s b = ((repS (sStep s (rTake (ftake b).1).1).1 (b.drop (ftake b).2.1)).1, (ftake b).2.1 + (repS (sStep s (rTake (ftake b).1).1).1 (b.drop (ftake b).2.1)).2) := by
  have hs := ftake_size b h1
  have e : repS (sStep s (rTake (ftake b).1).1).1 (b.drop (ftake b).2.1) = repF b.length (sStep s (rTake (ftake b).1).1).1 (b.drop (ftake b).2.1) := repF_more _ _ _ _ (Nat.lt_succ_self _) (by rw [List.length_drop]; omega)
  rw [e]
  show repF (b.length + 1) s b = _
  rw [repF, if_pos h1, if_pos h2, if_pos h3]
theorem repS_no1 {s : Stb} {b : List UInt8} (h1 : (ftake b).2.2 ≠ 0) : repS s b = (s, 0) := by show repF (b.length + 1) s b = _; rw [repF, if_neg h1]
theorem repS_no2 {s : Stb} {b : List UInt8} (h1 : (ftake b).2.2 = 0) (h2 : (rTake (ftake b).1).2 ≠ 0) : repS s b = (s, 0) := by show repF (b.length + 1) s b = _; rw [repF, if_pos h1, if_neg h2]
theorem repS_no3 {s : Stb} {b : List UInt8} (h1 : (ftake b).2.2 = 0) (h2 : (rTake (ftake b).1).2 = 0) (h3 : (sStep s (rTake (ftake b).1).1).2 ≠ 0) : repS s b = (s, 0) := by show repF (b.length + 1) s b = _; rw [repF, if_pos h1, if_pos h2, if_neg h3]

/-- After some rounds: the state so far, and where the rest begins. -/
def RepAt (b : List UInt8) (s : Stb) (k : Nat) : Prop := repS st0 b = ((repS s (b.drop k)).1, k + (repS s (b.drop k)).2)
theorem RepAt.next {b : List UInt8} {s : Stb} {k : Nat} (h : RepAt b s k) (h1 : (ftake (b.drop k)).2.2 = 0) (h2 : (rTake (ftake (b.drop k)).1).2 = 0) (h3 : (sStep s (rTake (ftake (b.drop k)).1).1).2 = 0) :
    RepAt b (sStep s (rTake (ftake (b.drop k)).1).1).1 (k + (ftake (b.drop k)).2.1) := by
  unfold RepAt at h ⊢
  rw [h, repS_next h1 h2 h3, List.drop_drop]
  simp only [Nat.add_assoc]
theorem RepAt.stop {b : List UInt8} {s : Stb} {k : Nat} (h : RepAt b s k) (h1 : repS s (b.drop k) = (s, 0)) : repS st0 b = (s, k) := by
  unfold RepAt at h
  rw [h, h1]
  rfl

/-- What Replay hands back. -/
def RepR (w : World) (b : List UInt8) (e : Ending) (w' : World) : Prop :=
  ∃ A n c, e = .returned (.tuple #[.agg #[.int .i64 (repS st0 b).1.floor, .int .i64 (repS st0 b).1.term, .int .i64 (repS st0 b).1.vote, .slice A n c], .int .i64 ((repS st0 b).2 : Nat)]) ∧ StF w' (fun x => w.heap.size ≤ x) (repS st0 b).1 A n c ∧ (repS st0 b).1.log.length ≤ 70 ∧ Below w.heap.size w w'
theorem rep_exit {w wr : World} {b : List UInt8} {s : Stb} {k : Nat} {A : Option Addr} {n c : Nat} {F : Nat → Prop} (h : repS st0 b = (s, k)) (hs : StF wr F s A n c) (hF : ∀ x, F x → x < wr.heap.size → w.heap.size ≤ x ∧ x ≠ w.heap.size) (hl : s.log.length ≤ 70) (hb : Below w.heap.size w wr) :
    RepR w b (.returned (.tuple #[.agg #[.int .i64 s.floor, .int .i64 s.term, .int .i64 s.vote, .slice A n c], .int .i64 (k : Nat)])) (set4 wr w.heap.size s A n c) := by
  refine ⟨A, n, c, by rw [h], ?_, by rw [h]; exact hl, set4_below hb (Nat.le_refl _)⟩
  rw [h]
  exact (set4_stf (hs.mono hF) (fun h => h.2 rfl)).mono fun b h _ => h.1

set_option maxRecDepth 100000 in
set_option maxHeartbeats 1600000 in
theorem replay_any (A : Option Addr) (b : List UInt8) (n c : Nat) (w : World) (hn : b.length = n) (hcap : n ≤ c) (hc : c ≤ maxLen) (hm : n ≤ 1000000) (hA : Bs w w.heap.size A b) :
    Calls Try.prog 39 #[.slice A n c] w (RepR w b) := by
  unfold maxLen at hc
  have HN := Lib.hid hn
  have b1 := (Below.refl w.heap.size w).alloc (Nat.le_refl _) (.cells #[.int .i64 0, .int .i64 0, .int .i64 0, .slice none 0 0] TSt)
  have b2 := b1.alloc b1.size (.cells #[.int .i64 0, .int .i64 0, .int .i64 0, .slice none 0 0] TSt)
  have kz := (Blk.new w TSt #[.int .i64 0, .int .i64 0, .int .i64 0, .slice none 0 0]).alloc (.cells #[.int .i64 0, .int .i64 0, .int .i64 0, .slice none 0 0] TSt)
  have ks := Blk.new (w.alloc (.cells #[.int .i64 0, .int .i64 0, .int .i64 0, .slice none 0 0] TSt)) TSt #[.int .i64 0, .int .i64 0, .int .i64 0, .slice none 0 0]
  rw [World.size_alloc] at ks
  clear hn b1
  go_enter Try.func39, Try.ntmps39
  go_wp2_with fail
  go_loopw [5] (fun a wr => ∃ (s : Stb) (As : Option Addr) (ns cs k : Nat), a = .int .i64 k ∧ k ≤ n ∧ Blk wr w.heap.size TSt #[.int .i64 0, .int .i64 0, .int .i64 0, .slice none 0 0] ∧ Blk wr (w.heap.size + 1) TSt (stCs s As ns cs) ∧ StF wr (fun x => w.heap.size ≤ x ∧ x ≠ w.heap.size ∧ x ≠ w.heap.size + 1 ∧ x < wr.heap.size) s As ns cs ∧ ns ≤ 70 ∧ RepAt b s k ∧ Below w.heap.size w wr) (fun a _ => n - (intOf a).toNat)
  case atStart => exact ⟨st0, none, 0, 0, 0, rfl, by omega, kz, ks, ⟨rfl, Nat.le_refl _, Nat.zero_le _, En.nil⟩, by omega, by simp [RepAt], b2⟩
  case round =>
    clear kz ks b2
    obtain ⟨s, As, ns, cs, k, rfl, hk, kz, ks, hst, hns, hat, hb⟩ := hrel
    have hcut := ((hA.below hb).cut HN.out hk hcap).more hb.size
    have hdl := Lib.hid (show (b.drop k).length = n - k by rw [List.length_drop, HN.out])
    have hsl : s.log.length ≤ 70 := by rw [hst.1]; exact hns
    unfold stCs at ks
    have EXIT : ∀ (wx : World) (hb' : Below wr.heap.size wr wx), repS st0 b = (s, k) → RepR w b (.returned (.tuple #[.agg #[.int .i64 s.floor, .int .i64 s.term, .int .i64 s.vote, .slice As ns cs], .int .i64 (k : Nat)])) (set4 wx w.heap.size s As ns cs) := fun wx hb' he =>
      rep_exit he (hst.step hb') (fun x h _ => ⟨h.1, h.2.1⟩) hsl (hb.trans (hb'.mono hb.size))
    have EXIT := Lib.hid EXIT
    by_cases hck : c = k
    · subst hck
      have hkn : n = c := by omega
      subst hkn
      have h0 : b.drop n = [] := List.eq_nil_of_length_eq_zero (by rw [hdl.out]; omega)
      have hf := hat.stop (repS_no1 (by rw [h0]; decide))
      have HF := Lib.hid hf
      clear hf h0 hat hcut hdl
      go_wp2_with fail
      refine (take_none _ _ _ _ (by omega)).mono ?_
      rintro e w1 ⟨A1, c1, rfl, o1, d1⟩
      have kz1 := kz.below d1 kz.lt
      have ks1 := ks.below d1 ks.lt
      have y0 := ks1.cell 0
      have y1 := ks1.cell 1
      have y2 := ks1.cell 2
      have y3 := ks1.cell 3
      have x0 := kz1.cell 0
      have x1 := kz1.cell 1
      have x2 := kz1.cell 2
      have x3 := kz1.cell 3
      have z0 := kz1.free 0
      have z1 := kz1.free 1
      have z2 := kz1.free 2
      have z3 := kz1.free 3
      simp only [List.getElem?_toArray, List.getElem?_cons_zero, List.getElem?_cons_succ] at y0 y1 y2 y3 x0 x1 x2 x3
      have hl1 := ks1.lt
      have hl2 := kz1.lt
      go_wp2_with fail
      exact bodyPost_ret (v := .tuple #[.agg #[.int .i64 s.floor, .int .i64 s.term, .int .i64 s.vote, .slice As ns cs], .int .i64 (n : Nat)]) (by simp [results, Try.results39, go_sem, x0, x1, x2, x3, hl2]) rfl (EXIT.out w1 d1 HF.out)
    · rw [if_neg hck] at hcut
      go_wp2_with fail
      refine (take_any _ (b.drop k) _ _ _ hdl.out (by omega) (by omega) hcut).mono ?_
      rintro e w1 ⟨A1, c1, rfl, o1, d1⟩
      have kz1 := kz.below d1 kz.lt
      have ks1 := ks.below d1 ks.lt
      by_cases hz : (ftake (b.drop k)).2.2 = 0
      · have hs := ftake_size _ hz
        rw [hdl.out] at hs
        have HZ := Lib.hid hz
        have HAT := Lib.hid hat
        rw [hz]
        obtain ⟨x, hx⟩ : ∃ x, (ftake (b.drop k)).1 = x := ⟨_, rfl⟩
        obtain ⟨m, hm'⟩ : ∃ m, (ftake (b.drop k)).2.1 = m := ⟨_, rfl⟩
        rw [hx, hm'] at hs
        rw [hx] at o1
        rw [hx, hm']
        have HXX := Lib.hid hx
        have HMM := Lib.hid hm'
        clear hat hz hcut hdl hx hm'
        obtain ⟨nx, hnx⟩ : ∃ nx, x.length = nx := ⟨_, rfl⟩
        rw [hnx] at o1 hs ⊢
        have HNX := Lib.hid hnx
        clear hnx
        have hxc := o1.cap
        have d1s := d1.size
        go_wp2_with fail
        refine (stake_any A1 x nx c1 w1 HNX.out hxc.1 (by omega) o1.bs).mono ?_
        rintro e w2 ⟨X, mx, cx, rfl, oX, d2⟩
        obtain ⟨r, er, hr⟩ : ∃ r er, rTake x = (r, er) := ⟨_, _, rfl⟩
        rw [hr] at oX ⊢
        simp only at oX ⊢
        have HR := Lib.hid hr
        have hbr : bd64 r.a ∧ bd64 r.b := by
          rcases rTake_cases x with ⟨r', h1, h2, _⟩ | h1
          · rw [hr] at h1
            injection h1 with h1 _
            subst h1
            obtain ⟨a1, a2, a3, a4, _⟩ := rOk_bd h2
            exact ⟨⟨by omega, by omega⟩, ⟨by omega, by omega⟩⟩
          · rw [hr] at h1
            injection h1 with h1 _
            subst h1
            exact ⟨⟨by show (-9223372036854775808 : Int) ≤ 0; decide, by show (0 : Int) ≤ 9223372036854775807; decide⟩, ⟨by show (-9223372036854775808 : Int) ≤ 0; decide, by show (0 : Int) ≤ 9223372036854775807; decide⟩⟩
        have hmx : mx ≤ 1000000 := by
          have h1 := oX.1
          rcases rTake_cases x with ⟨r', h2, h3, _⟩ | h2
          · rw [hr] at h2
            injection h2 with h2 _
            subst h2
            have := (rOk_bd h3).2.2.2.2.1
            omega
          · rw [hr] at h2
            injection h2 with h2 _
            subst h2
            have : mx = 0 := h1.symm
            omega
        have d12 := chain d1 d2
        have HMX := Lib.hid oX.1
        clear hr o1 d1 kz1 ks1 hxc
        unfold recV
        have ba := (Below.refl w2.heap.size w2).alloc (Nat.le_refl _) (.cells #[.int .i64 r.kind, .int .i64 r.a, .int .i64 r.b, .slice X mx cx] TRec)
        have d3 := chain d12 ba
        have kz3 := kz.below d3 kz.lt
        have ks3 := ks.below d3 ks.lt
        have kr3 := Blk.new w2 TRec #[.int .i64 r.kind, .int .i64 r.a, .int .i64 r.b, .slice X mx cx]
        have hst3 := hst.step d3
        have hX3 := oX.bs.step ba
        have hd2s := d12.size
        have hsz3 := ba.size
        clear ba d12 d2 oX
        have r0 := kr3.cell 0
        have r1 := kr3.cell 1
        have r2 := kr3.cell 2
        have r3 := kr3.cell 3
        have hlr := kr3.lt
        simp only [List.getElem?_toArray, List.getElem?_cons_zero, List.getElem?_cons_succ] at r0 r1 r2 r3
        have y0 := ks3.cell 0
        have y1 := ks3.cell 1
        have y2 := ks3.cell 2
        have y3 := ks3.cell 3
        have x0 := kz3.cell 0
        have x1 := kz3.cell 1
        have x2 := kz3.cell 2
        have x3 := kz3.cell 3
        have z0 := kz3.free 0
        have z1 := kz3.free 1
        have z2 := kz3.free 2
        have z3 := kz3.free 3
        simp only [List.getElem?_toArray, List.getElem?_cons_zero, List.getElem?_cons_succ] at y0 y1 y2 y3 x0 x1 x2 x3
        have hl1 := ks3.lt
        have hl2 := kz3.lt
        by_cases he : er = 0
        · subst he
          go_wp2_with fail
          refine (step_any (fun x => w.heap.size ≤ x ∧ x ≠ w.heap.size ∧ x ≠ w.heap.size + 1 ∧ x < wr.heap.size) s As ns cs r X mx cx _ (fun x h => Nat.lt_of_lt_of_le h.2.2.2 d3.size) hst3 (by omega) HMX.out hmx hX3 hbr.1 hbr.2).mono ?_
          rintro e w4 ⟨A7, n7, c7, rfl, st7, b7⟩
          obtain ⟨s8, e8, hss⟩ : ∃ a b, sStep s r = (a, b) := ⟨_, _, rfl⟩
          have hln := sStep_len s r hsl
          rw [hss] at st7 hln ⊢
          simp only at st7 hln ⊢
          have HSS := Lib.hid hss
          clear hss
          unfold stV
          have d4 := chain d3 b7
          have ba := (Below.refl w4.heap.size w4).alloc (Nat.le_refl _) (.cells #[.int .i64 s8.floor, .int .i64 s8.term, .int .i64 s8.vote, .slice A7 n7 c7] TSt)
          have d5 := chain d4 ba
          have kz5 := kz.below d5 kz.lt
          have ks5 := ks.below d5 ks.lt
          have kn5 := Blk.new w4 TSt #[.int .i64 s8.floor, .int .i64 s8.term, .int .i64 s8.vote, .slice A7 n7 c7]
          have st5 := st7.step ba
          have hd3 := d3.size
          have hd4 := d4.size
          have hd5 := d5.size
          clear y0 y1 y2 y3 x0 x1 x2 x3 z0 z1 z2 z3 hl1 hl2 r0 r1 r2 r3 hlr kr3 kz3 ks3 hst3 hX3 ba st7 b7
          have y0 := ks5.cell 0
          have y1 := ks5.cell 1
          have y2 := ks5.cell 2
          have y3 := ks5.cell 3
          have x0 := kz5.cell 0
          have x1 := kz5.cell 1
          have x2 := kz5.cell 2
          have x3 := kz5.cell 3
          have z0 := kz5.free 0
          have z1 := kz5.free 1
          have z2 := kz5.free 2
          have z3 := kz5.free 3
          simp only [List.getElem?_toArray, List.getElem?_cons_zero, List.getElem?_cons_succ] at y0 y1 y2 y3 x0 x1 x2 x3
          have hl1 := ks5.lt
          have hl2 := kz5.lt
          have n0 := kn5.cell 0
          have n1 := kn5.cell 1
          have n2 := kn5.cell 2
          have n3 := kn5.cell 3
          have u0 := ks5.free 0
          have u1 := ks5.free 1
          have u2 := ks5.free 2
          have u3 := ks5.free 3
          have hln5 := kn5.lt
          simp only [List.getElem?_toArray, List.getElem?_cons_zero, List.getElem?_cons_succ] at n0 n1 n2 n3
          by_cases h8 : e8 = 0
          · subst h8
            have HAT2 := Lib.hid (show RepAt b s8 (k + m) by
              have h := HAT.out.next HZ.out (by rw [HXX.out, HR.out]) (by rw [HXX.out, HR.out]; simp only; rw [HSS.out])
              rw [HXX.out, HR.out, HMM.out] at h
              simp only at h
              rw [HSS.out] at h
              exact h)
            have hw1 : IntKind.i64.wrap ((k : Int) + (m : Int)) = (k : Int) + (m : Int) := IntWalk.i64_in _ (by omega)
            have hlz := kz.lt
            have hls := ks.lt
            have hsw := hb.size
            have st6 := (set4_stf (z := w.heap.size + 1) (t := s8) (A := A7) (n := n7) (c := c7) (st5.mono (F' := fun x => w.heap.size ≤ x ∧ x ≠ w.heap.size ∧ x ≠ w.heap.size + 1 ∧ x < (w4.alloc (.cells #[.int .i64 s8.floor, .int .i64 s8.term, .int .i64 s8.vote, .slice A7 n7 c7] TSt)).heap.size) (fun x h hlt => by
              rcases h with h | h
              · exact ⟨h.1, h.2.1, h.2.2.1, hlt⟩
              · exact ⟨by omega, by omega, by omega, hlt⟩)) (fun h => h.2.2.1 rfl)).mono (F' := fun x => w.heap.size ≤ x ∧ x ≠ w.heap.size ∧ x ≠ w.heap.size + 1 ∧ x < (set4 (w4.alloc (.cells #[.int .i64 s8.floor, .int .i64 s8.term, .int .i64 s8.vote, .slice A7 n7 c7] TSt)) (w.heap.size + 1) s8 A7 n7 c7).heap.size) (fun x h hlt => ⟨h.1, h.2.1, h.2.2.1, hlt⟩)
            have hn7 : n7 ≤ 70 := by rw [← st5.1]; exact hln
            have k6 := set4_blk (t := s8) (A := A7) (n := n7) (c := c7) ks5
            have kz6 := set4_far (z := w.heap.size + 1) (t := s8) (A := A7) (n := n7) (c := c7) kz5 (by omega)
            have b6 := set4_below (z := w.heap.size + 1) (t := s8) (A := A7) (n := n7) (c := c7) (hb.trans (d5.mono hb.size)) (Nat.le_succ _)
            clear st5 ks5 kz5 kn5
            go_wp2_with fail
            go_roundw
            case rel => exact ⟨s8, A7, n7, c7, k + m, by go_num, by omega, kz6, k6, st6, hn7, HAT2.out, b6⟩
            case measure => simp [intOf]; omega
          · have HF := Lib.hid (HAT.out.stop (repS_no3 HZ.out (by rw [HXX.out, HR.out]) (by rw [HXX.out, HR.out]; simp only; rw [HSS.out]; exact h8)))
            clear st5 ks5 kz5 kn5
            go_wp2_with fail
            exact bodyPost_ret (v := .tuple #[.agg #[.int .i64 s.floor, .int .i64 s.term, .int .i64 s.vote, .slice As ns cs], .int .i64 (k : Nat)]) (by simp [results, Try.results39, go_sem, x0, x1, x2, x3, hl2]) rfl (EXIT.out _ d5 HF.out)
        · have HF := Lib.hid (HAT.out.stop (repS_no2 HZ.out (by rw [HXX.out, HR.out]; exact he)))
          go_wp2_with fail
          exact bodyPost_ret (v := .tuple #[.agg #[.int .i64 s.floor, .int .i64 s.term, .int .i64 s.vote, .slice As ns cs], .int .i64 (k : Nat)]) (by simp [results, Try.results39, go_sem, x0, x1, x2, x3, hl2]) rfl (EXIT.out _ d3 HF.out)
      · have HF := Lib.hid (hat.stop (repS_no1 hz))
        have he := ftake_err (b.drop k)
        clear hat hcut
        have y0 := ks1.cell 0
        have y1 := ks1.cell 1
        have y2 := ks1.cell 2
        have y3 := ks1.cell 3
        have x0 := kz1.cell 0
        have x1 := kz1.cell 1
        have x2 := kz1.cell 2
        have x3 := kz1.cell 3
        have z0 := kz1.free 0
        have z1 := kz1.free 1
        have z2 := kz1.free 2
        have z3 := kz1.free 3
        simp only [List.getElem?_toArray, List.getElem?_cons_zero, List.getElem?_cons_succ] at y0 y1 y2 y3 x0 x1 x2 x3
        have hl1 := ks1.lt
        have hl2 := kz1.lt
        rcases he with he | he
        · exact absurd he hz
        rcases he with he | he
        all_goals
          rw [he]
          clear hz
          go_wp2_with fail
          exact bodyPost_ret (v := .tuple #[.agg #[.int .i64 s.floor, .int .i64 s.term, .int .i64 s.vote, .slice As ns cs], .int .i64 (k : Nat)]) (by simp [results, Try.results39, go_sem, x0, x1, x2, x3, hl2]) rfl (EXIT.out w1 d1 HF.out)
end Go.Proofs.Ytcgkoojegopfnaa

namespace Go.Proofs.Ytcgkoojegopfnaa

theorem ftake_of (b : List UInt8) (n : Nat) (h : hd2 b = n) (h0 : 0 < n) (h1 : n ≤ 4096) (hl : n + 6 ≤ b.length) :
    ftake b = if adler 1 (b.take (n + 2)) = (beVal ((b.drop (n + 2)).take 4) : Nat) then ((b.drop 2).take n, n + 6, 0) else ([], 0, 3) := by
  unfold ftake
  rw [if_neg (by omega), h, if_neg (by omega), if_neg (by omega)]

theorem hd2_be2 (n : Nat) (r : List UInt8) (h : n < 65536) : hd2 (be2 n ++ r) = n := by
  simp only [hd2, be2, List.cons_append, List.nil_append, List.getD_cons_zero, List.getD_cons_succ, byteOf_toNat]
  omega

/-- A frame, and what stands behind it, in pieces. -/
theorem fput_parts (x r : List UInt8) : fput x ++ r = be2 x.length ++ (x ++ (be4 (adler 1 (fbody x)).toNat ++ r)) := by
  unfold fput fbody
  simp only [List.append_assoc]

theorem adler_toNat (l : List UInt8) : ((adler 1 l).toNat : Int) = adler 1 l ∧ (adler 1 l).toNat < 4294967296 := by
  have h := adler_bd 1 l
  omega

theorem ftake_fput (x r : List UInt8) (h0 : 0 < x.length) (h1 : x.length ≤ 4096) : ftake (fput x ++ r) = (x, x.length + 6, 0) := by
  have hh : hd2 (fput x ++ r) = x.length := by rw [fput_parts]; exact hd2_be2 _ _ (by omega)
  have hl : x.length + 6 ≤ (fput x ++ r).length := by rw [List.length_append, fput_length]; omega
  rw [ftake_of _ _ hh h0 h1 hl]
  have e1 : (fput x ++ r).take (x.length + 2) = fbody x := by
    unfold fput
    rw [List.append_assoc, List.take_left' (fbody_length x)]
  have e2 : ((fput x ++ r).drop (x.length + 2)).take 4 = be4 (adler 1 (fbody x)).toNat := by
    unfold fput
    rw [List.append_assoc, List.drop_left' (fbody_length x), List.take_left' (be4_length _)]
  have e3 : ((fput x ++ r).drop 2).take x.length = x := by
    rw [fput_parts, List.drop_left' (be2_length _), List.take_left' rfl]
  rw [e1, e2, e3, beVal_be4 _ (adler_toNat _).2, if_pos (adler_toNat _).1.symm]

theorem beVal_inj {a b : List UInt8} (ha : a.length = 4) (hb : b.length = 4) (h : beVal a = beVal b) : a = b := by
  rw [← be4_beVal a ha, ← be4_beVal b hb, h]

theorem getD_set_ne (l : List UInt8) (i j : Nat) (v d : UInt8) (h : i ≠ j) : (l.set i v).getD j d = l.getD j d := by
  simp [h]

/-- A frame of which a byte of the record, or of the sum, is turned is none. -/
theorem ftake_turned (x : List UInt8) (k : Nat) (by_ : UInt8) (h0 : 0 < x.length) (h1 : x.length ≤ 4096) (hk : 2 ≤ k) (hk2 : k < (fput x).length) (hb : by_ ≠ 0) :
    ftake ((fput x).set k ((fput x)[k] ^^^ by_)) = ([], 0, 3) := by
  have hv : (fput x)[k] ^^^ by_ ≠ (fput x)[k] := fun h => hb ((xor_same _ _).1 h)
  generalize hvv : (fput x)[k] ^^^ by_ = v at *
  have hl0 := fput_length x
  have hh : hd2 ((fput x).set k v) = x.length := by
    have h := hd2_be2 x.length (x ++ (be4 (adler 1 (fbody x)).toNat ++ [])) (by omega)
    rw [← fput_parts, List.append_nil] at h
    unfold hd2 at h ⊢
    rw [getD_set_ne _ _ _ _ _ (by omega), getD_set_ne _ _ _ _ _ (by omega)]
    exact h
  rw [ftake_of _ _ hh h0 h1 (by rw [List.length_set]; omega), if_neg]
  intro e
  have e1 : (fput x).take (x.length + 2) = fbody x := by unfold fput; rw [List.take_left' (fbody_length x)]
  have e2 : (fput x).drop (x.length + 2) = be4 (adler 1 (fbody x)).toNat := by unfold fput; rw [List.drop_left' (fbody_length x)]
  by_cases hlt : k < x.length + 2
  · rw [List.take_set, e1, List.drop_set, if_pos hlt, e2, List.take_of_length_le (by rw [be4_length]; omega), beVal_be4 _ (adler_toNat _).2, (adler_toNat _).1] at e
    have hkb : k < (fbody x).length := by rw [fbody_length]; exact hlt
    have h3 := (adler_set 1 (fbody x) k hkb v).1 e
    apply hv
    rw [h3]
    have h8 : (fput x)[k]? = some ((fbody x)[k]) := by
      unfold fput
      rw [List.getElem?_append_left hkb, List.getElem?_eq_getElem hkb]
    rw [List.getElem?_eq_getElem hk2] at h8
    exact (Option.some.inj h8).symm
  · rw [List.take_set, e1, List.drop_set, if_neg hlt, e2, List.take_of_length_le (by rw [List.length_set, be4_length]; omega)] at e
    rw [List.set_eq_of_length_le (by rw [fbody_length]; omega)] at e
    have h4 : beVal (be4 (adler 1 (fbody x)).toNat) = beVal ((be4 (adler 1 (fbody x)).toNat).set (k - (x.length + 2)) v) := by
      rw [beVal_be4 _ (adler_toNat _).2]
      have := (adler_toNat (fbody x)).1
      omega
    have h5 := beVal_inj (be4_length _) (by rw [List.length_set, be4_length]) h4
    have hj : k - (x.length + 2) < (be4 (adler 1 (fbody x)).toNat).length := by rw [be4_length]; omega
    have h6 : (be4 (adler 1 (fbody x)).toNat)[k - (x.length + 2)] = v := by
      have h7 : ((be4 (adler 1 (fbody x)).toNat).set (k - (x.length + 2)) v)[k - (x.length + 2)]? = some v := by
        rw [List.getElem?_set_self hj]
      rw [← h5, List.getElem?_eq_getElem hj] at h7
      exact Option.some.inj h7
    apply hv
    rw [← h6]
    have h8 : (fput x)[k]? = some ((be4 (adler 1 (fbody x)).toNat)[k - (x.length + 2)]) := by
      unfold fput
      rw [List.getElem?_append_right (by rw [fbody_length]; omega), fbody_length, List.getElem?_eq_getElem hj]
    rw [List.getElem?_eq_getElem hk2] at h8
    exact (Option.some.inj h8).symm

/-- What is too short, or a frame's beginning, goes on. -/
theorem ftake_short (p : List UInt8) (h : p.length < 2 ∨ (0 < hd2 p ∧ hd2 p ≤ 4096 ∧ p.length < hd2 p + 6)) : ftake p = ([], 0, 2) := by
  unfold ftake
  by_cases h2 : p.length < 2
  · rw [if_pos h2]
  · rcases h with h | ⟨h3, h4, h5⟩
    · exact absurd h h2
    · rw [if_neg h2, if_neg (by omega), if_pos h5]

theorem ftake_prefix (x : List UInt8) (j : Nat) (h0 : 0 < x.length) (h1 : x.length ≤ 4096) (hj : j < x.length + 6) : ftake ((fput x).take j) = ([], 0, 2) := by
  have hl0 := fput_length x
  by_cases h2 : j < 2
  · exact ftake_short _ (.inl (by rw [List.length_take]; omega))
  · refine ftake_short _ (.inr ?_)
    have h := hd2_be2 x.length (x ++ (be4 (adler 1 (fbody x)).toNat ++ [])) (by omega)
    rw [← fput_parts, List.append_nil] at h
    have hh : hd2 ((fput x).take j) = x.length := by
      rw [← h]
      unfold hd2
      simp [show 0 < j by omega, show 1 < j by omega]
    rw [hh, List.length_take]
    omega

/-- Frames one behind the other are all told, whatever stands behind that is none. -/
theorem fall_flatP (R : List (List UInt8)) (r : List UInt8) (hR : ∀ x ∈ R, 0 < x.length ∧ x.length ≤ 4096) (hr : (ftake r).2.2 ≠ 0) : fall (flatP R ++ r) = (R, (flatP R).length) := by
  induction R with
  | nil => rw [flatP_nil, List.nil_append, fall_stop r hr]; rfl
  | cons x R ih =>
    have hx := hR x List.mem_cons_self
    have hi := ih (fun y hy => hR y (List.mem_cons_of_mem _ hy))
    have ht := ftake_fput x (flatP R ++ r) hx.1 hx.2
    rw [flatP_cons, List.append_assoc, fall_next _ (by rw [ht]), ht]
    simp only
    rw [← fput_length x, List.drop_left' rfl, hi]
    simp only [List.length_append]

/-- Where the first m frames of a row end. -/
def flen (R : List (List UInt8)) (m : Nat) : Nat := (flatP (R.take m)).length
theorem flen_zero (R : List (List UInt8)) : flen R 0 = 0 := rfl
theorem flen_succ (R : List (List UInt8)) (m : Nat) (h : m < R.length) : flen R (m + 1) = flen R m + (R[m].length + 6) := by
  unfold flen
  rw [List.take_succ_eq_append_getElem h, flatP_snoc, List.length_append, fput_length]
theorem flen_all (R : List (List UInt8)) : flen R R.length = (flatP R).length := by unfold flen; rw [List.take_length]
theorem flen_mono (R : List (List UInt8)) (m d : Nat) : flen R m ≤ flen R (m + d) := by
  unfold flen
  rw [List.take_add, flatP_append, List.length_append]
  omega
theorem flen_le (R : List (List UInt8)) (m j : Nat) (h : m ≤ j) : flen R m ≤ flen R j := by
  obtain ⟨d, rfl⟩ := Nat.exists_eq_add_of_le h
  exact flen_mono R m d
theorem fends_getD (R : List (List UInt8)) (i : Nat) (h : i < R.length) : (fends R)[i]? = some (flen R (i + 1)) := by
  unfold fends flen
  simp [h]

/-- How many frames of a row are whole where it is cut at k. -/
def Whole (R : List (List UInt8)) (k m : Nat) : Prop := m ≤ R.length ∧ flen R m ≤ k ∧ (m < R.length → k < flen R (m + 1))

/-- What stands behind the whole frames of a row that is cut goes on. -/
theorem cut_short (R : List (List UInt8)) (k m : Nat) (hR : ∀ x ∈ R, 0 < x.length ∧ x.length ≤ 4096) (h : Whole R k m) : ftake (((flatP R).take k).drop (flen R m)) = ([], 0, 2) := by
  obtain ⟨h1, h2, h3⟩ := h
  have hsplit : flatP R = flatP (R.take m) ++ flatP (R.drop m) := by rw [← flatP_append, List.take_append_drop]
  have hd : ((flatP R).take k).drop (flen R m) = (flatP (R.drop m)).take (k - flen R m) := by
    rw [List.drop_take, hsplit, List.drop_left' (show (flatP (R.take m)).length = flen R m from rfl)]
  rw [hd]
  by_cases hm : m < R.length
  · have hx := hR R[m] (List.getElem_mem hm)
    have hlt := h3 hm
    rw [flen_succ R m hm] at hlt
    rw [List.drop_eq_getElem_cons hm, flatP_cons, List.take_append_of_le_length (by rw [fput_length]; omega)]
    exact ftake_prefix _ _ hx.1 hx.2 (by omega)
  · obtain rfl : m = R.length := by omega
    rw [List.drop_length, flatP_nil, List.take_nil]
    exact ftake_short _ (.inl (by simp))

theorem cut_fall (R : List (List UInt8)) (k m : Nat) (hR : ∀ x ∈ R, 0 < x.length ∧ x.length ≤ 4096) (h : Whole R k m) : fall ((flatP R).take k) = (R.take m, flen R m) := by
  have hs := cut_short R k m hR h
  have e : (flatP R).take k = flatP (R.take m) ++ ((flatP R).take k).drop (flen R m) := by
    have h1 : ((flatP R).take k).take (flen R m) = flatP (R.take m) := by
      rw [List.take_take, Nat.min_eq_left h.2.1]
      have hsplit : flatP R = flatP (R.take m) ++ flatP (R.drop m) := by rw [← flatP_append, List.take_append_drop]
      rw [hsplit, List.take_left' (show (flatP (R.take m)).length = flen R m from rfl)]
    conv => lhs; rw [← List.take_append_drop (flen R m) ((flatP R).take k), h1]
  rw [e, fall_flatP _ _ (fun x hx => hR x (List.mem_of_mem_take hx)) (by rw [hs]; decide)]
  rfl

theorem noughts_short : (ftake [0, 0, 1]).2.2 ≠ 0 := by decide +kernel
end Go.Proofs.Ytcgkoojegopfnaa

namespace Go.Proofs.Ytcgkoojegopfnaa
open Go.RowKit
set_option linter.unusedSimpArgs false
set_option linter.unusedVariables false

/-- How many bytes records have on a disk. -/
def szR : List Rcd → Nat
  | [] => 0
  | r :: rs => (rPut r).1.length + 6 + szR rs
theorem szR_snoc (L : List Rcd) (r : Rcd) : szR (L ++ [r]) = szR L + (rPut r).1.length + 6 := by
  induction L with
  | nil => simp [szR]
  | cons x xs ih => simp only [List.cons_append, szR, ih]; omega
theorem rPut_len (r : Rcd) : (rPut r).1.length ≤ 205 := by
  cases h : rOk r
  · unfold rPut; rw [h]; simp
  · unfold rPut; rw [h]; exact rBytes_210 h
theorem szR_le (L : List Rcd) : szR L ≤ L.length * 211 := by
  induction L with
  | nil => simp [szR]
  | cons x xs ih => have := rPut_len x; simp only [szR, List.length_cons]; omega

set_option maxRecDepth 100000 in
set_option maxHeartbeats 1600000 in
theorem size15_any (F : Nat → Prop) (L : List Rcd) (R : Option Addr) (m cr : Nat) (w : World) (hL : L.length = m) (hm : m ≤ 1000) (hR : Rc w F R L) (hx : ∀ r ∈ L, r.x.length ≤ 1000000) :
    Calls Try.prog 40 #[.slice R m cr] w fun e w' => e = .returned (.int .i64 (szR L : Nat)) ∧ Below w.heap.size w w' := by
  have HLM := Lib.hid hL
  have HX := Lib.hid hx
  have b0 := Below.refl w.heap.size w
  clear hL hx
  go_enter Try.func40, Try.ntmps40
  go_wp2_with fail
  go_loopw [3, 4] (fun v i wr => ∃ (k : Nat) (z : Nat), v = .int .i64 z ∧ i = .int .i64 k ∧ k ≤ m ∧ z ≤ k * 211 ∧ Hid (szR (L.take k) = z) ∧ Below w.heap.size w wr) (fun _ i _ => m - (intOf i).toNat)
  case atStart => exact ⟨0, 0, rfl, rfl, by omega, by omega, Lib.hid rfl, b0⟩
  case round =>
    clear b0
    obtain ⟨k, z, rfl, rfl, hk, hz, HZ, hb⟩ := hrel
    by_cases hlt : k < m
    · have hx : L[k]? = some (L[k]'(by rw [HLM.out]; exact hlt)) := List.getElem?_eq_getElem _
      have hxm : L[k]'(by rw [HLM.out]; exact hlt) ∈ L := List.getElem_mem _
      have hAw : Rc wr F R L := hR.keep hb.size fun b hf hlt => hb.block b hlt
      obtain ⟨b, off, Ac, cc, rfl, hfb, hbl, c0, c1, c2, c3, hcc, hcm, hbs, g1, g2, g3⟩ := hAw.at_ hx
      have hg := Lib.hid (show L.take (k + 1) = L.take k ++ [L[k]'(by rw [HLM.out]; exact hlt)] by rw [List.take_succ_eq_append_getElem (by rw [HLM.out]; exact hlt)])
      have HXM := Lib.hid hxm
      clear hx hAw hxm
      generalize L[k]'(by rw [HLM.out]; exact hlt) = x at *
      obtain ⟨mx, hmx⟩ : ∃ mx, x.x.length = mx := ⟨_, rfl⟩
      rw [hmx] at c3 hcc
      have HMX := Lib.hid hmx
      have hmxb : mx ≤ 1000000 := by rw [← hmx]; exact HX.out x HXM.out
      clear hmx
      have hbs1 := hbs.bs
      go_wp2_with fail
      refine (sput_any x Ac mx cc _ HMX.out hmxb hbs1 g2 g3).mono ?_
      rintro e w4 ⟨P, np, cp, rfl, oP, b4⟩
      have bw4 := hb.trans (b4.mono hb.size)
      have hnp := oP.1
      have hpl := rPut_len x
      have HZ2 := Lib.hid (show szR (L.take (k + 1)) = z + np + 6 by rw [hg.out, szR_snoc, HZ.out, hnp])
      have hnp2 : np ≤ 205 := by omega
      have hw1 : IntKind.i64.wrap ((z : Int) + (np : Int)) = (z : Int) + (np : Int) := IntWalk.i64_in _ (by omega)
      have hw2 : IntKind.i64.wrap ((z : Int) + (np : Int) + 6) = (z : Int) + (np : Int) + 6 := IntWalk.i64_in _ (by omega)
      clear hbs1 hbs b4 hb c0 c1 c2 c3 oP hnp hpl
      go_wp2_with fail
      go_roundw
      case rel => exact ⟨k + 1, z + np + 6, by go_num, by go_num, by omega, by omega, HZ2, bw4⟩
      case measure => simp [intOf]; omega
    · obtain rfl : k = m := by omega
      have hLk : L.take k = L := List.take_of_length_le (by rw [HLM.out]; exact Nat.le_refl _)
      have HZ2 := Lib.hid (show szR L = z by rw [← HZ.out, hLk])
      go_wp2_with fail
      go_ret
      exact ⟨by rw [HZ2.out]; rfl, hb⟩
end Go.Proofs.Ytcgkoojegopfnaa

namespace Go.Proofs.Ytcgkoojegopfnaa
set_option linter.unusedSimpArgs false
set_option linter.unusedVariables false

/-- Records that were saved. -/
def Good (L : List Rcd) : Prop := L.all rOk = true ∧ (steps st0 L).2 = 0
/-- The state behind records. -/
def stOf (L : List Rcd) : Stb := (steps st0 L).1
/-- The states behind each beginning of them. -/
def stS (L : List Rcd) : List Stb := (List.range (L.length + 1)).map fun k => stOf (L.take k)

theorem steps_app (s : Stb) (L M : List Rcd) (h : (steps s L).2 = 0) : steps s (L ++ M) = steps (steps s L).1 M := by
  induction L generalizing s with
  | nil => rfl
  | cons r L ih =>
    by_cases h0 : (sStep s r).2 = 0
    · rw [steps, if_pos h0] at h
      rw [List.cons_append, steps, if_pos h0, ih _ h, steps, if_pos h0]
    · rw [steps, if_neg h0] at h
      exact absurd h h0
theorem steps_take (s : Stb) (L : List Rcd) (k : Nat) (h : (steps s L).2 = 0) : (steps s (L.take k)).2 = 0 := by
  induction L generalizing s k with
  | nil => simpa using h
  | cons r L ih =>
    cases k with
    | zero => rfl
    | succ k =>
      by_cases h0 : (sStep s r).2 = 0
      · rw [steps, if_pos h0] at h
        rw [List.take_succ_cons, steps, if_pos h0]
        exact ih _ _ h
      · rw [steps, if_neg h0] at h
        exact absurd h h0
theorem Good.nil : Good [] := ⟨rfl, rfl⟩
theorem Good.take {L : List Rcd} (h : Good L) (k : Nat) : Good (L.take k) := by
  refine ⟨?_, steps_take _ _ _ h.2⟩
  rw [List.all_eq_true]
  intro x hx
  exact List.all_eq_true.1 h.1 x (List.mem_of_mem_take hx)
theorem Good.app {L M : List Rcd} (h : Good L) (h1 : M.all rOk = true) (h2 : (steps (stOf L) M).2 = 0) : Good (L ++ M) := by
  refine ⟨by rw [List.all_append, h.1, h1]; rfl, ?_⟩
  rw [steps_app _ _ _ h.2]
  exact h2
theorem stOf_app {L M : List Rcd} (h : Good L) : stOf (L ++ M) = (steps (stOf L) M).1 := by unfold stOf; rw [steps_app _ _ _ h.2]
theorem stS_len (L : List Rcd) : (stS L).length = L.length + 1 := by unfold stS; simp
theorem stS_at (L : List Rcd) (k : Nat) (h : k ≤ L.length) : (stS L)[k]? = some (stOf (L.take k)) := by
  unfold stS
  rw [List.getElem?_map, List.getElem?_range (by omega)]
  rfl
theorem stS_nil : stS [] = [st0] := rfl
theorem stS_snoc (L : List Rcd) (r : Rcd) : stS (L ++ [r]) = stS L ++ [stOf (L ++ [r])] := by
  apply List.ext_getElem?
  intro k
  by_cases h1 : k ≤ L.length
  · rw [stS_at _ _ (by simp; omega), List.getElem?_append_left (by rw [stS_len]; omega), stS_at _ _ h1, List.take_append_of_le_length h1]
  · by_cases h2 : k = L.length + 1
    · subst h2
      rw [stS_at _ _ (by simp), List.getElem?_append_right (by rw [stS_len]; omega), stS_len, List.take_of_length_le (by simp)]
      simp
    · rw [List.getElem?_eq_none (by rw [stS_len]; simp; omega), List.getElem?_eq_none (by rw [List.length_append, stS_len]; simp; omega)]
theorem saveB_cons (r : Rcd) (L : List Rcd) : saveB (r :: L) = frB r ++ saveB L := by unfold saveB; simp
theorem saveB_app (L M : List Rcd) : saveB (L ++ M) = saveB L ++ saveB M := by unfold saveB; simp
theorem frB_fput {r : Rcd} (h : rOk r = true) : frB r = fput (rBytes r) ∧ 0 < (rBytes r).length ∧ (rBytes r).length ≤ 4096 := by
  have h1 := rBytes_len h
  refine ⟨?_, by omega, by omega⟩
  unfold frB fp
  rw [if_neg (by omega)]
theorem frB_length {r : Rcd} (h : rOk r = true) : (frB r).length = (rBytes r).length + 6 := by rw [(frB_fput h).1, fput_length]
theorem szR_saveB (L : List Rcd) (h : L.all rOk = true) : szR L = (saveB L).length := by
  induction L with
  | nil => rfl
  | cons r L ih =>
    rw [List.all_cons, Bool.and_eq_true] at h
    rw [saveB_cons, List.length_append, szR, ih h.2, frB_length h.1]
    unfold rPut
    rw [if_pos h.1]
theorem szR_app (L M : List Rcd) : szR (L ++ M) = szR L + szR M := by
  induction L with
  | nil => simp [szR]
  | cons r L ih => simp only [List.cons_append, szR, ih]; omega
theorem szR_lt (L : List Rcd) (j k : Nat) (h : j < k) (hk : k ≤ L.length) : szR (L.take j) < szR (L.take k) := by
  have e : L.take k = L.take j ++ (L.drop j).take (k - j) := by
    rw [show k = j + (k - j) by omega, List.take_add]
    simp
  rw [e, szR_app]
  have hne : (L.drop j).take (k - j) ≠ [] := by
    intro h0
    have := congrArg List.length h0
    rw [List.length_take, List.length_drop] at this
    simp at this
    omega
  cases hM : (L.drop j).take (k - j) with
  | nil => exact absurd hM hne
  | cons r M => simp only [szR]; omega
theorem szR_mono (L : List Rcd) (j k : Nat) (h : j ≤ k) (hk : k ≤ L.length) : szR (L.take j) ≤ szR (L.take k) := by
  rcases Nat.lt_or_ge j k with h1 | h1
  · exact Nat.le_of_lt (szR_lt L j k h1 hk)
  · rw [show j = k by omega]; exact Nat.le_refl _

/-- The bytes of records, cut: those that are whole are replayed. -/
theorem repS_cut (L : List Rcd) : ∀ (s : Stb) (j : Nat), L.all rOk = true → (steps s L).2 = 0 →
    ∃ K, K ≤ L.length ∧ repS s ((saveB L).take j) = ((steps s (L.take K)).1, szR (L.take K)) ∧ szR (L.take K) ≤ ((saveB L).take j).length ∧ (K = L.length ∨ ((saveB L).take j).length < szR (L.take (K + 1))) := by
  induction L with
  | nil =>
    intro s j _ _
    refine ⟨0, Nat.le_refl _, ?_, Nat.zero_le _, .inl rfl⟩
    have : (saveB []).take j = [] := by simp [saveB]
    rw [this]
    rfl
  | cons r L ih =>
    intro s j ha hs
    rw [List.all_cons, Bool.and_eq_true] at ha
    have h0 : (sStep s r).2 = 0 := by
      by_cases h : (sStep s r).2 = 0
      · exact h
      · rw [steps, if_neg h] at hs; exact absurd hs h
    rw [steps, if_pos h0] at hs
    obtain ⟨f1, f2, f3⟩ := frB_fput ha.1
    have hfl := frB_length ha.1
    have hput : rPut r = (rBytes r, 0) := by unfold rPut; rw [if_pos ha.1]
    rw [saveB_cons]
    by_cases hj : j < (frB r).length
    · refine ⟨0, Nat.zero_le _, ?_, Nat.zero_le _, .inr ?_⟩
      · have e : (frB r ++ saveB L).take j = (fput (rBytes r)).take j := by rw [List.take_append_of_le_length (by omega), f1]
        rw [e, repS_no1 (by rw [ftake_prefix _ _ f2 f3 (by omega)]; decide)]
        rfl
      · rw [List.length_take]
        simp only [List.take_succ_cons, List.take_zero, szR, hput]
        omega
    · obtain ⟨K, k1, k2, k3, k4⟩ := ih (sStep s r).1 (j - (frB r).length) ha.2 hs
      have e : (frB r ++ saveB L).take j = fput (rBytes r) ++ (saveB L).take (j - (frB r).length) := by rw [List.take_append, List.take_of_length_le (by omega), f1]
      have hf : ftake (fput (rBytes r) ++ (saveB L).take (j - (frB r).length)) = (rBytes r, (rBytes r).length + 6, 0) := ftake_fput _ _ f2 f3
      have ht := rTake_put ha.1
      refine ⟨K + 1, by simp; omega, ?_, ?_, ?_⟩
      · rw [e, repS_next (by rw [hf]) (by rw [hf]; simp only; rw [ht]) (by rw [hf]; simp only; rw [ht]; exact h0), hf]
        simp only
        rw [ht]
        simp only
        rw [List.drop_left' (fput_length _), k2]
        simp only [List.take_succ_cons, steps, if_pos h0, szR, hput]
      · rw [e, List.length_append, fput_length]
        simp only [List.take_succ_cons, szR, hput]
        omega
      · rcases k4 with k4 | k4
        · exact .inl (by simp [k4])
        · refine .inr ?_
          rw [e, List.length_append, fput_length]
          simp only [List.take_succ_cons, szR, hput] at k4 ⊢
          omega

/-- What the law looks for. -/
structure Whole15 (L : List Rcd) (b : List UInt8) (K : Nat) : Prop where
  le : K ≤ L.length
  rep : repS st0 b = (stOf (L.take K), szR (L.take K))
  sz : szR (L.take K) ≤ b.length
  fin : K = L.length ∨ b.length < szR (L.take (K + 1))
theorem whole_of {L : List Rcd} (h : Good L) (j : Nat) : ∃ K, Whole15 L ((saveB L).take j) K := by
  obtain ⟨K, k1, k2, k3, k4⟩ := repS_cut L st0 j h.1 h.2
  exact ⟨K, k1, k2, k3, k4⟩
theorem Whole15.mono {L : List Rcd} {b c : List UInt8} {K M : Nat} (h : Whole15 L b K) (k : Whole15 L c M) (hl : c.length ≤ b.length) : M ≤ K := by
  rcases Nat.lt_or_ge K M with h1 | h1
  · rcases h.fin with h2 | h2
    · have := k.le; omega
    · have := szR_mono L (K + 1) M h1 k.le
      have := k.sz
      omega
  · exact h1

/-- A disk on which records lie. -/
def Lies (L : List Rcd) (d : Dsk) : Prop := d.b = saveB L ∧ d.syn = d.b.length ∧ d.down = false
/-- What a round does. -/
theorem round_cases (L M : List Rcd) (d d' : Dsk) (t : Stb) (e : Int) (hG : Good L) (hd : Lies L d) (hl : L.length + M.length ≤ 200) (h : sSave d (stOf L) M = (t, e, d')) :
    (e = 0 ∧ Good (L ++ M) ∧ t = stOf (L ++ M) ∧ Lies (L ++ M) d' ∧ d'.doomed = d.doomed) ∨
    (e = 30 ∧ d.doomed = true ∧ Good (L ++ M) ∧ t = stOf L ∧ ∃ j, d'.b = (saveB (L ++ M)).take j) ∨
    (e ≠ 0 ∧ e ≠ 30 ∧ t = stOf L ∧ d' = d) := by
  obtain ⟨h1, h2, h3⟩ := hd
  unfold sSave at h
  by_cases ha : M.all rOk = true
  · rw [if_pos ha] at h
    by_cases hs : (steps (stOf L) M).2 = 0
    · rw [if_pos hs] at h
      have hG2 := hG.app ha hs
      have hst := stOf_app (M := M) hG
      by_cases hM : M = []
      · rw [if_pos hM] at h
        injection h with e1 h
        injection h with e2 e3
        subst hM e1 e2 e3
        rw [List.append_nil]
        exact .inl ⟨rfl, hG, rfl, ⟨h1, h2, h3⟩, rfl⟩
      · rw [if_neg hM] at h
        have hlen := saveB_len _ hG2.1
        rw [saveB_app, List.length_append, List.length_append] at hlen
        rw [dAppend_fine d _ h3 (by rw [h1]; omega)] at h
        simp only at h
        rw [if_pos trivial] at h
        cases hdm : d.doomed
        · rw [dSync_fine { d with b := d.b ++ saveB M } h3 hdm] at h
          simp only at h
          rw [if_pos trivial] at h
          injection h with e1 h
          injection h with e2 e3
          subst e1 e2 e3
          refine .inl ⟨rfl, hG2, hst.symm, ⟨?_, rfl, h3⟩, hdm⟩
          show d.b ++ saveB M = _
          rw [saveB_app, h1]
        · have hsy : dSync { d with b := d.b ++ saveB M } = (dCrash { d with b := d.b ++ saveB M } d.keep, 30) := by
            unfold dSync
            rw [if_neg (by rw [h3]; decide), if_pos hdm]
          rw [hsy] at h
          simp only at h
          rw [if_neg (by decide)] at h
          injection h with e1 h
          injection h with e2 e3
          subst e1 e2 e3
          refine .inr (.inl ⟨rfl, rfl, hG2, rfl, ?_⟩)
          refine ⟨d.syn + dStay { d with b := d.b ++ saveB M } d.keep, ?_⟩
          show (d.b ++ saveB M).take _ = _
          rw [saveB_app, h1]
    · rw [if_neg hs] at h
      have hs5 : (steps (stOf L) M).2 = 5 := by
        clear h
        generalize stOf L = s at hs ⊢
        induction M generalizing s with
        | nil => exact absurd rfl hs
        | cons r M ih =>
          rw [List.all_cons, Bool.and_eq_true] at ha
          by_cases h0 : (sStep s r).2 = 0
          · rw [steps, if_pos h0] at hs ⊢
            exact ih (by simp at hl; omega) ha.2 _ hs
          · rw [steps, if_neg h0] at hs ⊢
            exact sStep_err s r ha.1 h0
      injection h with e1 h
      injection h with e2 e3
      rw [hs5] at e2
      subst e1 e2 e3
      exact .inr (.inr ⟨by decide, by decide, rfl, rfl⟩)
  · rw [if_neg ha] at h
    injection h with e1 h
    injection h with e2 e3
    subst e1 e2 e3
    exact .inr (.inr ⟨by decide, by decide, rfl, rfl⟩)
end Go.Proofs.Ytcgkoojegopfnaa

namespace Go.Proofs.Ytcgkoojegopfnaa
open Go.ChangeShapes Go.WideShapes Go.ChangeAt Go.RowKit Go.Deep

/-- A slice of entries that reads as L: from what is known of each. -/
theorem En.of_cells {W : World} {F : Nat → Prop} {b off len : Nat} (hF : F b) (hb : 0 < len → b < W.heap.size) {G : Nat → Ent}
    (h : ∀ i, i < len → ∃ Ac cc, W.cell? ⟨b, off + i * 2, none⟩ = some (.int .i64 (G i).term) ∧ W.cell? ⟨b, off + i * 2 + 1, none⟩ = some (.slice Ac (G i).b.length cc) ∧ (G i).b.length ≤ cc ∧ cc ≤ maxLen ∧ BsF W F Ac (G i).b) :
    En W F (some ⟨b, off, none⟩) ((List.range len).map G) := by
  have hcell : ∀ j, j < len * 2 → ∃ v, W.cell? ⟨b, off + j, none⟩ = some v := fun j hj => by
    obtain ⟨Ac, cc, h1, h2, _⟩ := h (j / 2) (by omega)
    rcases Nat.mod_two_eq_zero_or_one j with hm | hm
    · refine ⟨.int .i64 (G (j / 2)).term, ?_⟩
      rw [show off + j = off + j / 2 * 2 by omega]
      exact h1
    · refine ⟨.slice Ac (G (j / 2)).b.length cc, ?_⟩
      rw [show off + j = off + j / 2 * 2 + 1 by omega]
      exact h2
  obtain ⟨V, hV⟩ := choose_lt (α := Value) (n := len * 2) hcell
  have hvs : ∀ j, j < len * 2 → ((List.range (len * 2)).map V)[j]? = some (V j) := fun j hj => by simp [hj]
  refine ⟨(List.range (len * 2)).map V, by simp, fun hl => ⟨b, off, rfl, hF, hb (by simp at hl; omega), fun j hj => ?_⟩, fun i x hx => ?_⟩
  · have hj' : j < len * 2 := by simpa using hj
    rw [hvs j hj']
    exact hV j hj'
  · have hlt : i < len := by
      have := (List.getElem?_eq_some_iff.1 hx).1
      simpa using this
    obtain rfl : G i = x := by simpa [hlt] using hx
    obtain ⟨Ac, cc, h1, h2, h3, h4, h5⟩ := h i hlt
    refine ⟨Ac, cc, ?_, ?_, h3, h4, h5⟩
    · rw [hvs (i * 2) (by omega), ← hV (i * 2) (by omega)]
      exact h1
    · rw [hvs (i * 2 + 1) (by omega), ← hV (i * 2 + 1) (by omega)]
      exact h2

theorem open_ents {H : Type} {enc : TypeId × Value → H} {P : Program} {t e ti ts tk : TypeId} {f0 f1 : Field} (ht : P.underlying t = some (.slice e)) (he : P.underlying e = some (.struct #[f0, f1]))
    (hone : oneCellFields P #[f0, f1] = true) (hC : P.cellsOf e = 2)
    (t0 : f0.type = ti) (t1 : f1.type = ts) (ui : P.underlying ti = some (.int .i64)) (us : P.underlying ts = some (.slice tk)) (uk : P.underlying tk = some (.int .u8)) (ck : P.cellsOf tk = 1)
    {W : World} {fuel : Nat} {cs : List Value} {x : DataW H × List MemPlace} {sp : Nat → Bool} {hd : Bool} (h : DataW.trod enc P W 0 sp hd fuel t cs = some x) :
    ∃ (a : Option Addr) (L : List Ent) (len cap : Nat), cs = [.slice a len cap] ∧ L.length = len ∧ len ≤ cap ∧ cap ≤ maxLen ∧ En W (fun b => b < W.heap.size) a L := by
  rcases open_slice_fields ht he hone (hC.trans rfl) h with hcs | ⟨y, l, c, m, hcs, hl, hm, hmm, hi⟩
  · exact ⟨none, [], 0, 0, hcs, rfl, Nat.le_refl _, Nat.zero_le _, En.nil⟩
  · have hlm : l ≤ m := by rw [hmm]; split <;> omega
    have key : ∀ i, i < l → ∃ z : Ent, ∃ Ac cc, W.cell? (y.add (i * 2)) = some (.int .i64 z.term) ∧ W.cell? (y.add (i * 2 + 1)) = some (.slice Ac z.b.length cc) ∧
        z.b.length ≤ cc ∧ cc ≤ maxLen ∧ Bs W W.heap.size Ac z.b := by
      intro i hlt
      obtain ⟨n, hfld⟩ := hi i (by omega)
      obtain ⟨v0, y0, c0, r0⟩ := hfld 0 f0 rfl
      obtain ⟨v1, y1, c1, r1⟩ := hfld 1 f1 rfl
      rw [t0] at r0
      rw [t1] at r1
      obtain ⟨n0, e0, _, w0⟩ := DataW.trod_int ui r0
      obtain ⟨l2, a2, c2', e2, g1, g2, g3⟩ := open_bs0 us uk ck r1
      injection e0 with e0
      subst e0 e2
      exact ⟨⟨n0, l2⟩, a2, c2', c0, c1, g1, g2, g3⟩
    obtain ⟨G, hG⟩ := choose_lt (α := Ent) (n := l) key
    rcases Nat.eq_zero_or_pos l with rfl | hpos
    · exact ⟨some y, [], 0, c, hcs, rfl, Nat.zero_le _, hm, En.nil⟩
    · have hc0 : ∃ v, W.cell? (y.add (0 * 2)) = some v := by obtain ⟨_, _, h, _⟩ := hG 0 hpos; exact ⟨_, h⟩
      obtain ⟨v0, hc0⟩ := hc0
      obtain ⟨b, off, spot⟩ := y
      have hspot : spot = none := by simpa [Addr.add] using World.cell?_spot hc0
      subst hspot
      have hb : b < W.heap.size := World.block_lt_of_cell? W _ hc0
      refine ⟨some ⟨b, off, none⟩, (List.range l).map G, l, c, hcs, by simp, hl, hm, En.of_cells (F := fun b => b < W.heap.size) hb (fun _ => hb) fun i hlt => ?_⟩
      obtain ⟨Ac, cc, g0, g1, g2, g3, g4⟩ := hG i hlt
      rw [Addr.add_lit] at g0 g1
      exact ⟨Ac, cc, g0, g1, g2, g3, (BsF.of_bs g4 (Nat.le_refl _)).mono fun _ h _ => h⟩

theorem open_stb {H : Type} {enc : TypeId × Value → H} {P : Program} {r : Reach} {b0 : Nat} {t ti te e ts tk : TypeId} {f0 f1 f2 f3 e0 e1 : Field} (ht : P.underlying t = some (.struct #[f0, f1, f2, f3])) (hone : oneCellFields P #[f0, f1, f2, f3] = true) (hC : P.cellsOf t = 4)
    (t0 : f0.type = ti) (t1 : f1.type = ti) (t2 : f2.type = ti) (t3 : f3.type = te) (ui : P.underlying ti = some (.int .i64)) (ue : P.underlying te = some (.slice e)) (he : P.underlying e = some (.struct #[e0, e1]))
    (hone' : oneCellFields P #[e0, e1] = true) (hC' : P.cellsOf e = 2) (u0 : e0.type = ti) (u1 : e1.type = ts) (us : P.underlying ts = some (.slice tk)) (uk : P.underlying tk = some (.int .u8)) (ck : P.cellsOf tk = 1)
    {W : World} {v : Value} {d : DataW H} {ps : List MemPlace} {sp : Nat → Bool} {hd : Bool} (hv : Value.okWide P W r b0 t v) (h : DataW.Trod enc P W 0 sp hd t v d ps) :
    ∃ (s : Stb) (A : Option Addr) (n c : Nat), v = .agg #[.int .i64 s.floor, .int .i64 s.term, .int .i64 s.vote, .slice A n c] ∧ StF W (fun b => b < W.heap.size) s A n c := by
  obtain ⟨v0, v1, v2, v3, y0, y1, y2, y3, n, rfl, _, _, h0, h1, h2, h3⟩ := Go.Joins.open_agg4 ht hone hC hv h
  rw [t0] at h0
  rw [t1] at h1
  rw [t2] at h2
  rw [t3] at h3
  obtain ⟨n0, e0', _, w0⟩ := DataW.trod_int ui h0
  obtain ⟨n1, e1', _, w1⟩ := DataW.trod_int ui h1
  obtain ⟨n2, e2', _, w2⟩ := DataW.trod_int ui h2
  obtain ⟨a, L, len, cap, hcs, g1, g2, g3, g4⟩ := open_ents ue he hone' hC' u0 u1 ui us uk ck h3
  injection e0' with e0'
  injection e1' with e1'
  injection e2' with e2'
  injection hcs with hcs
  subst e0' e1' e2' hcs
  exact ⟨⟨n0, n1, n2, L⟩, a, len, cap, rfl, g1, g2, g3, g4⟩
end Go.Proofs.Ytcgkoojegopfnaa

namespace Go.Proofs.Ytcgkoojegopfnaa
open Go.ChangeShapes Go.WideShapes Go.ChangeAt Go.RowKit Go.Deep

instance : Inhabited Rcd := ⟨⟨0, 0, 0, []⟩⟩

/-- A slice of records that reads as L: from what is known of each. -/
theorem Rc.of_cells {W : World} {F : Nat → Prop} {b off len : Nat} (hF : F b) (hb : 0 < len → b < W.heap.size) {G : Nat → Rcd}
    (h : ∀ i, i < len → ∃ Ac cc, W.cell? ⟨b, off + i * 4, none⟩ = some (.int .i64 (G i).kind) ∧ W.cell? ⟨b, off + i * 4 + 1, none⟩ = some (.int .i64 (G i).a) ∧ W.cell? ⟨b, off + i * 4 + 2, none⟩ = some (.int .i64 (G i).b) ∧ W.cell? ⟨b, off + i * 4 + 3, none⟩ = some (.slice Ac (G i).x.length cc) ∧
      (G i).x.length ≤ cc ∧ cc ≤ maxLen ∧ BsF W F Ac (G i).x ∧ bd64 (G i).kind ∧ bd64 (G i).a ∧ bd64 (G i).b) :
    Rc W F (some ⟨b, off, none⟩) ((List.range len).map G) := by
  have hcell : ∀ j, j < len * 4 → ∃ v, W.cell? ⟨b, off + j, none⟩ = some v := fun j hj => by
    obtain ⟨Ac, cc, h0, h1, h2, h3, _⟩ := h (j / 4) (by omega)
    have hm : j % 4 = 0 ∨ j % 4 = 1 ∨ j % 4 = 2 ∨ j % 4 = 3 := by omega
    rcases hm with hm | hm | hm | hm
    · exact ⟨_, by rw [show off + j = off + j / 4 * 4 by omega]; exact h0⟩
    · exact ⟨_, by rw [show off + j = off + j / 4 * 4 + 1 by omega]; exact h1⟩
    · exact ⟨_, by rw [show off + j = off + j / 4 * 4 + 2 by omega]; exact h2⟩
    · exact ⟨_, by rw [show off + j = off + j / 4 * 4 + 3 by omega]; exact h3⟩
  obtain ⟨V, hV⟩ := choose_lt (α := Value) (n := len * 4) hcell
  have hvs : ∀ j, j < len * 4 → ((List.range (len * 4)).map V)[j]? = some (V j) := fun j hj => by simp [hj]
  refine ⟨(List.range (len * 4)).map V, by simp, fun hl => ⟨b, off, rfl, hF, hb (by simp at hl; omega), fun j hj => ?_⟩, fun i x hx => ?_⟩
  · have hj' : j < len * 4 := by simpa using hj
    rw [hvs j hj']
    exact hV j hj'
  · have hlt : i < len := by
      have := (List.getElem?_eq_some_iff.1 hx).1
      simpa using this
    obtain rfl : G i = x := by simpa [hlt] using hx
    obtain ⟨Ac, cc, h0, h1, h2, h3, h4⟩ := h i hlt
    refine ⟨Ac, cc, ?_, ?_, ?_, ?_, h4⟩
    · rw [hvs (i * 4) (by omega), ← hV (i * 4) (by omega)]
      exact h0
    · rw [hvs (i * 4 + 1) (by omega), ← hV (i * 4 + 1) (by omega)]
      exact h1
    · rw [hvs (i * 4 + 2) (by omega), ← hV (i * 4 + 2) (by omega)]
      exact h2
    · rw [hvs (i * 4 + 3) (by omega), ← hV (i * 4 + 3) (by omega)]
      exact h3

theorem open_rcs0 {H : Type} {enc : TypeId × Value → H} {P : Program} {t e ti ts tk : TypeId} {f0 f1 f2 f3 : Field} (ht : P.underlying t = some (.slice e)) (he : P.underlying e = some (.struct #[f0, f1, f2, f3]))
    (hone : oneCellFields P #[f0, f1, f2, f3] = true) (hC : P.cellsOf e = 4)
    (t0 : f0.type = ti) (t1 : f1.type = ti) (t2 : f2.type = ti) (t3 : f3.type = ts) (ui : P.underlying ti = some (.int .i64)) (us : P.underlying ts = some (.slice tk)) (uk : P.underlying tk = some (.int .u8)) (ck : P.cellsOf tk = 1)
    {W : World} {fuel : Nat} {cs : List Value} {x : DataW H × List MemPlace} {sp : Nat → Bool} {hd : Bool} (h : DataW.trod enc P W 0 sp hd fuel t cs = some x) :
    ∃ (a : Option Addr) (L : List Rcd) (len cap : Nat), cs = [.slice a len cap] ∧ L.length = len ∧ len ≤ cap ∧ cap ≤ maxLen ∧ Rc W (fun b => b < W.heap.size) a L := by
  rcases open_slice_fields ht he hone (hC.trans rfl) h with hcs | ⟨y, l, c, m, hcs, hl, hm, hmm, hi⟩
  · exact ⟨none, [], 0, 0, hcs, rfl, Nat.le_refl _, Nat.zero_le _, Rc.nil⟩
  · have hlm : l ≤ m := by rw [hmm]; split <;> omega
    have key : ∀ i, i < l → ∃ z : Rcd, ∃ Ac cc, W.cell? (y.add (i * 4)) = some (.int .i64 z.kind) ∧ W.cell? (y.add (i * 4 + 1)) = some (.int .i64 z.a) ∧ W.cell? (y.add (i * 4 + 2)) = some (.int .i64 z.b) ∧ W.cell? (y.add (i * 4 + 3)) = some (.slice Ac z.x.length cc) ∧
        z.x.length ≤ cc ∧ cc ≤ maxLen ∧ Bs W W.heap.size Ac z.x ∧ bd64 z.kind ∧ bd64 z.a ∧ bd64 z.b := by
      intro i hlt
      obtain ⟨n, hfld⟩ := hi i (by omega)
      obtain ⟨v0, y0, c0, r0⟩ := hfld 0 f0 rfl
      obtain ⟨v1, y1, c1, r1⟩ := hfld 1 f1 rfl
      obtain ⟨v2, y2, c2, r2⟩ := hfld 2 f2 rfl
      obtain ⟨v3, y3, c3, r3⟩ := hfld 3 f3 rfl
      rw [t0] at r0
      rw [t1] at r1
      rw [t2] at r2
      rw [t3] at r3
      obtain ⟨n0, e0, _, w0⟩ := DataW.trod_int ui r0
      obtain ⟨n1, e1, _, w1⟩ := DataW.trod_int ui r1
      obtain ⟨n2, e2, _, w2⟩ := DataW.trod_int ui r2
      obtain ⟨l2, a2, c2', e3, g1, g2, g3⟩ := open_bs0 us uk ck r3
      injection e0 with e0
      injection e1 with e1
      injection e2 with e2
      subst e0 e1 e2 e3
      exact ⟨⟨n0, n1, n2, l2⟩, a2, c2', c0, c1, c2, c3, g1, g2, g3, bounds_i64 w0, bounds_i64 w1, bounds_i64 w2⟩
    obtain ⟨G, hG⟩ := choose_lt (α := Rcd) (n := l) key
    rcases Nat.eq_zero_or_pos l with rfl | hpos
    · exact ⟨some y, [], 0, c, hcs, rfl, Nat.zero_le _, hm, Rc.nil⟩
    · have hc0 : ∃ v, W.cell? (y.add (0 * 4)) = some v := by obtain ⟨_, _, h, _⟩ := hG 0 hpos; exact ⟨_, h⟩
      obtain ⟨v0, hc0⟩ := hc0
      obtain ⟨b, off, spot⟩ := y
      have hspot : spot = none := by simpa [Addr.add] using World.cell?_spot hc0
      subst hspot
      have hb : b < W.heap.size := World.block_lt_of_cell? W _ hc0
      refine ⟨some ⟨b, off, none⟩, (List.range l).map G, l, c, hcs, by simp, hl, hm, Rc.of_cells (F := fun b => b < W.heap.size) hb (fun _ => hb) fun i hlt => ?_⟩
      obtain ⟨Ac, cc, g0, g1, g2, g3, g4, g5, g6, g7⟩ := hG i hlt
      rw [Addr.add_lit] at g0 g1 g2 g3
      exact ⟨Ac, cc, g0, g1, g2, g3, g4, g5, (BsF.of_bs g6 (Nat.le_refl _)).mono fun _ h _ => h, g7⟩

theorem open_rcs {H : Type} {enc : TypeId × Value → H} {P : Program} {t e ti ts tk : TypeId} {f0 f1 f2 f3 : Field} (ht : P.underlying t = some (.slice e)) (he : P.underlying e = some (.struct #[f0, f1, f2, f3]))
    (hone : oneCellFields P #[f0, f1, f2, f3] = true) (hC : P.cellsOf e = 4)
    (t0 : f0.type = ti) (t1 : f1.type = ti) (t2 : f2.type = ti) (t3 : f3.type = ts) (ui : P.underlying ti = some (.int .i64)) (us : P.underlying ts = some (.slice tk)) (uk : P.underlying tk = some (.int .u8)) (ck : P.cellsOf tk = 1)
    {W : World} {a : Option Addr} {len cap : Nat} {d : DataW H} {ps : List MemPlace} {sp : Nat → Bool} {hd : Bool} (h : DataW.Trod enc P W 0 sp hd t (.slice a len cap) d ps) :
    ∃ L : List Rcd, L.length = len ∧ len ≤ cap ∧ cap ≤ maxLen ∧ Rc W (fun b => b < W.heap.size) a L := by
  obtain ⟨fuel, hf⟩ := h
  obtain ⟨a', L, len', cap', hcs, h1, h2, h3, h4⟩ := open_rcs0 ht he hone hC t0 t1 t2 t3 ui us uk ck hf
  simp [Value.cells] at hcs
  obtain ⟨rfl, rfl, rfl⟩ := hcs
  exact ⟨L, h1, h2, h3, h4⟩

/-- Rows of records, in a row, in blocks below B. -/
def Rcc (w : World) (B : Nat) (A : Option Addr) (LL : List (List Rcd)) : Prop :=
  ∀ i L, LL[i]? = some L → ∃ b off Ai ci, A = some ⟨b, off, none⟩ ∧ b < B ∧ w.cell? ⟨b, off + i, none⟩ = some (.slice Ai L.length ci) ∧ L.length ≤ ci ∧ ci ≤ maxLen ∧ Rc w (fun b => b < B) Ai L
theorem Rcc.below {w w' : World} {B : Nat} {A : Option Addr} {LL : List (List Rcd)} (h : Rcc w B A LL) (hb : Below B w w') : Rcc w' B A LL := fun i L hx => by
  obtain ⟨b, off, Ai, ci, rfl, h1, h2, h3, h4, h5⟩ := h i L hx
  exact ⟨b, off, Ai, ci, rfl, h1, (World.cell?_of_block (a := ⟨b, off + i, none⟩) (hb.block b h1)).trans h2, h3, h4, h5.keep hb.size fun b hf _ => hb.block b hf⟩

theorem open_rcss {H : Type} {enc : TypeId × Value → H} {P : Program} {t r e ti ts tk : TypeId} {f0 f1 f2 f3 : Field} (ht : P.underlying t = some (.slice r)) (hcr : P.cellsOf r = 1) (hr : P.underlying r = some (.slice e)) (he : P.underlying e = some (.struct #[f0, f1, f2, f3]))
    (hone : oneCellFields P #[f0, f1, f2, f3] = true) (hC : P.cellsOf e = 4)
    (t0 : f0.type = ti) (t1 : f1.type = ti) (t2 : f2.type = ti) (t3 : f3.type = ts) (ui : P.underlying ti = some (.int .i64)) (us : P.underlying ts = some (.slice tk)) (uk : P.underlying tk = some (.int .u8)) (ck : P.cellsOf tk = 1)
    {W : World} {a : Option Addr} {len cap : Nat} {d : DataW H} {ps : List MemPlace} {sp : Nat → Bool} {hd : Bool} (h : DataW.Trod enc P W 0 sp hd t (.slice a len cap) d ps) :
    ∃ LL : List (List Rcd), LL.length = len ∧ len ≤ cap ∧ cap ≤ maxLen ∧ Rcc W W.heap.size a LL := by
  obtain ⟨fuel, hf⟩ := h
  rcases open_slice1 ht hcr hf with ⟨hcs, _⟩ | ⟨x, l, c, m, n, V, D, Pl, hcs, _, hl, hm, hmm, _, hi⟩
  · simp [Value.cells] at hcs
    obtain ⟨rfl, rfl, rfl⟩ := hcs
    exact ⟨[], rfl, Nat.le_refl _, Nat.zero_le _, fun i L h => by simp at h⟩
  · simp [Value.cells] at hcs
    obtain ⟨rfl, rfl, rfl⟩ := hcs
    have hlm : len ≤ m := by rw [hmm]; split <;> omega
    obtain ⟨F, hF⟩ := choose_lt (α := List Rcd) (n := len) (p := fun i L => ∃ a cap, V i = .slice a L.length cap ∧ L.length ≤ cap ∧ cap ≤ maxLen ∧ Rc W (fun b => b < W.heap.size) a L) (fun i hlt => by
      obtain ⟨a', L, len', cap', hcs, h1, h2, h3, h4⟩ := open_rcs0 hr he hone hC t0 t1 t2 t3 ui us uk ck (hi i (by omega)).2
      injection hcs with hcs
      subst h1
      exact ⟨L, a', cap', hcs, h2, h3, h4⟩)
    refine ⟨(List.range len).map F, by simp, hl, hm, fun i L hL => ?_⟩
    have hlt : i < len := by
      have := (List.getElem?_eq_some_iff.1 hL).1
      simpa using this
    obtain rfl : F i = L := by simpa [hlt] using hL
    have hc0 := (hi i (by omega)).1
    have hc1 := (hi 0 (by omega)).1
    obtain ⟨b, off, spot⟩ := x
    have hspot : spot = none := by simpa [Addr.add] using World.cell?_spot hc1
    subst hspot
    obtain ⟨Ai, ci, h1, h2, h3, h4⟩ := hF i hlt
    rw [Addr.add_lit, h1] at hc0
    exact ⟨b, off, Ai, ci, rfl, World.block_lt_of_cell? W _ hc0, hc0, h2, h3, h4⟩
end Go.Proofs.Ytcgkoojegopfnaa

namespace Go.Proofs.Ytcgkoojegopfnaa
open Go.RowKit
set_option linter.unusedSimpArgs false
set_option linter.unusedVariables false

/-- What a step told, and its state. -/
def IsStT (F : Nat → Prop) (t : Stb) (e : Int) (v : Value) (w : World) : Prop := ∃ A n c, v = .tuple #[stV t A n c, .int .i64 e] ∧ StF w F t A n c
theorem isStT_step (F : Nat → Prop) (t : Stb) (e : Int) : ∀ v w w', Below w.heap.size w w' → IsStT F t e v w → IsStT F t e v w' := fun _ _ _ hb ⟨A, n, c, h1, h2⟩ => ⟨A, n, c, h1, h2.step hb⟩
def IsStA (F : Nat → Prop) (t : Stb) (v : Value) (w : World) : Prop := ∃ A n c, v = stV t A n c ∧ StF w F t A n c
theorem isStA_step (F : Nat → Prop) (t : Stb) : ∀ v w w', Below w.heap.size w w' → IsStA F t v w → IsStA F t v w' := fun _ _ _ hb ⟨A, n, c, h1, h2⟩ => ⟨A, n, c, h1, h2.step hb⟩

set_option maxRecDepth 100000 in
set_option maxHeartbeats 3200000 in
theorem storeReplays_walk8 (w : World) (A : Option Addr) (LL : List (List Rcd)) (n c : Nat) (hn : LL.length = n) (hnc : n ≤ c) (hcm : c ≤ maxLen) (hl : Rcc w w.heap.size A LL)
    (keep : Int) (hkeep : -9223372036854775808 ≤ keep ∧ keep ≤ 9223372036854775807) (at_ : UInt8) :
    Calls Try.prog 11 #[.slice A n c, .int .i64 keep, .int .u8 (at_.toNat : Int)] w fun e w' => e = .returned (.bool true) ∧ Below w.heap.size w w' := by
  have HN := Lib.hid hn
  unfold maxLen at hcm
  clear hn
  go_enter Try.func11, Try.ntmps11
  go_wp2_with fail
  refine (shown15_any _).mono ?_
  rintro e w1 ⟨rfl, b1⟩
  go_wp2_with fail
  refine (new_any _).mono ?_
  rintro e w2 ⟨g, rfl, d0, f2⟩
  have b2 := chain b1 f2
  clear f2
  have hg2 := d0.g_lt
  have hg2' := d0.ge
  have hbs := b1.size
  have start : RP w (((w2.alloc (.cells #[.int .i64 0, .int .i64 0, .int .i64 0, .slice none 0 0] TSt)).alloc (.cells #[.int .i64 0, .int .i64 0, .int .i64 0, .slice none 0 0] TSt)).alloc (.cells #[] TRec)) g none dNew [(w2.heap.size, st0)] (some ⟨w2.heap.size + 1, 0, none⟩) 1 1 [st0] (some ⟨w2.heap.size + 1 + 1, 0, none⟩) 0 0 [] [] := by
    have ba := (Below.refl w2.heap.size w2).alloc (Nat.le_refl _) (.cells #[.int .i64 0, .int .i64 0, .int .i64 0, .slice none 0 0] TSt)
    have bb := ba.alloc ba.size (.cells #[.int .i64 0, .int .i64 0, .int .i64 0, .slice none 0 0] TSt)
    have bc := bb.alloc bb.size (.cells #[] TRec)
    have ks := ((Blk.new w2 TSt (stCs st0 none 0 0)).alloc (.cells #[.int .i64 0, .int .i64 0, .int .i64 0, .slice none 0 0] TSt)).alloc (.cells #[] TRec)
    have h2 := b2.size
    have hnil : ∀ (wx : World) (F : Nat → Prop), StF wx F st0 none 0 0 := fun wx F => ⟨rfl, Nat.le_refl _, Nat.zero_le _, En.nil⟩
    have hov : Ov ((w2.alloc (.cells #[.int .i64 0, .int .i64 0, .int .i64 0, .slice none 0 0] TSt)).alloc (.cells #[.int .i64 0, .int .i64 0, .int .i64 0, .slice none 0 0] TSt)) w.heap.size TSt 4 (some ⟨(w2.alloc (.cells #[.int .i64 0, .int .i64 0, .int .i64 0, .slice none 0 0] TSt)).heap.size, 0, none⟩) 1 1 [.int .i64 0, .int .i64 0, .int .i64 0, .slice none 0 0] :=
      ⟨rfl, .inr ⟨_, 1, _, rfl, by simp; omega, heap_alloc_new _ _, Nat.le_refl _, by decide, rfl, rfl⟩⟩
    rw [World.size_alloc] at hov
    have hoc := OwnC.empty (w := (w2.alloc (.cells #[.int .i64 0, .int .i64 0, .int .i64 0, .slice none 0 0] TSt)).alloc (.cells #[.int .i64 0, .int .i64 0, .int .i64 0, .slice none 0 0] TSt)) (base := w.heap.size) (F := FR (((w2.alloc (.cells #[.int .i64 0, .int .i64 0, .int .i64 0, .slice none 0 0] TSt)).alloc (.cells #[.int .i64 0, .int .i64 0, .int .i64 0, .slice none 0 0] TSt)).alloc (.cells #[] TRec)) g [w2.heap.size] none (ow (some ⟨w2.heap.size + 1, 0, none⟩) 1 1) (ow (some ⟨w2.heap.size + 1 + 1, 0, none⟩) 0 0)) (by simp; omega)
    rw [World.size_alloc, World.size_alloc] at hoc
    refine ⟨(d0.mono b1.size).step bc, fun v hv => ?_, by simp, fun v hv e => ?_, ⟨rfl, _, hov.alloc _, fun i s hi => ?_⟩, hoc, fun s hs => ?_, (fun x hx => by cases hx), b2.trans (bc.mono b2.size)⟩
    · rw [List.mem_singleton.1 hv]
      exact ⟨h2, by show (0 : Nat) ≤ 70; decide, none, 0, 0, ks, hnil _ _⟩
    · rw [List.mem_singleton.1 hv] at e
      have : w2.heap.size + 1 = w2.heap.size := by injection e
      omega
    · match i, hi with
      | 0, hi =>
        obtain rfl : st0 = s := by simpa using hi
        exact ⟨none, 0, 0, rfl, rfl, rfl, rfl, hnil _ _⟩
    · rw [List.mem_singleton.1 hs]
      decide
  have hcells := (Blk.new w2 TSt #[.int .i64 0, .int .i64 0, .int .i64 0, .slice none 0 0])
  go_upto_block 0 with fail
  generalize ((w2.alloc (.cells #[.int .i64 0, .int .i64 0, .int .i64 0, .slice none 0 0] TSt)).alloc (.cells #[.int .i64 0, .int .i64 0, .int .i64 0, .slice none 0 0] TSt)).alloc (.cells #[] TRec) = w3 at *
  clear hcells d0 b2 hg2 hg2' b1 hbs
  generalize w2.heap.size = zs at *
  go_cut [10, 11] from 12 to 118 (fun vst val wx => ∃ (L : List Rcd) (d : Dsk) (q : Option Nat) (j : Nat) (As : Option Addr) (ns cs : Nat) (Aa : Option Addr) (na ca : Nat), vst = .slice As ns cs ∧ val = .slice Aa na ca ∧ Good L ∧ L.length ≤ 180 ∧ d.b = (saveB L).take j ∧ RP w wx g q d [] As ns cs (stS L) Aa na ca L [])
  case first =>
    go_wp2_with fail
    go_loopw [10, 11, 12] (fun vst val i wr => ∃ (k : Nat) (L : List Rcd) (d : Dsk) (q : Option Nat) (As : Option Addr) (ns cs : Nat) (Aa : Option Addr) (na ca : Nat), vst = .slice As ns cs ∧ val = .slice Aa na ca ∧ i = .int .i64 k ∧ k ≤ n ∧ k ≤ 6 ∧ Good L ∧ L.length ≤ k * 30 ∧ Lies L d ∧ ((k < n ∧ k < 6) → d.doomed = false) ∧ RP w wr g q d [(zs, stOf L)] As ns cs (stS L) Aa na ca L []) (fun _ _ i _ => n - (intOf i).toNat)
    case atStart => exact ⟨0, [], dNew, none, _, _, _, _, _, _, rfl, rfl, rfl, by omega, by omega, Good.nil, by simp, ⟨rfl, rfl, rfl⟩, fun _ => rfl, start⟩
    case round =>
      clear start
      obtain ⟨k, L, d, q, As, ns, cs, Aa, na, ca, rfl, rfl, rfl, hk, hk6, hG, hLk, hlies, hdm, hrp⟩ := hrel
      by_cases hlt : k < n ∧ k < 6
      · obtain ⟨hlt, hlt6⟩ := hlt
        have hxl : LL[k]? = some (LL[k]'(by rw [HN.out]; exact hlt)) := List.getElem?_eq_getElem _
        obtain ⟨b, off, Ai, ci, rfl, hbl, hcell, hci, hcim, hrc⟩ := hl k _ hxl
        clear hxl
        generalize LL[k]'(by rw [HN.out]; exact hlt) = M0 at *
        obtain ⟨nl, hnl⟩ : ∃ nl, M0.length = nl := ⟨_, rfl⟩
        rw [hnl] at hcell hci
        have HNL := Lib.hid hnl
        clear hnl
        have hbw := hrp.bl
        have hcw : wr.cell? ⟨b, off + k, none⟩ = some (.slice Ai nl ci) := (World.cell?_of_block (a := ⟨b, off + k, none⟩) (hbw.block b hbl)).trans hcell
        have hblr : b < wr.heap.size := Nat.lt_of_lt_of_le hbl hbw.size
        have hrcw : Rc wr (fun b => b < w.heap.size) Ai M0 := hrc.keep hbw.size fun b' hf _ => hbw.block b' hf
        have hbs := hbw.size
        have hdm0 := hdm ⟨hlt, hlt6⟩
        go_wp2_with fail
        refine (records_any (fun b' => b' < w.heap.size) M0 Ai nl ci wr (fun b' h => Nat.lt_of_lt_of_le h hbs) HNL.out hci hcim hrcw).mono ?_
        rintro e w7 ⟨A7, n7, c7, rfl, o7, b7⟩
        have hL30 : (recsOf M0).length ≤ 30 := by unfold recsOf; rw [List.length_map, List.length_take]; omega
        have hLx : ∀ r ∈ recsOf M0, r.x.length ≤ 1000000 := by
          intro r hr
          unfold recsOf at hr
          rw [List.mem_map] at hr
          obtain ⟨y, _, rfl⟩ := hr
          show (y.x.take 250).length ≤ 1000000
          rw [List.length_take]; omega
        have r7 := o7.rc (F' := FR w7 g [zs] q (ow As ns cs) (ow Aa na ca)) (fun b' h hlt => hrp.fresh b7.size b' hlt (.inl h)) (fun b' h hlt => hrp.fresh b7.size b' hlt (.inr h))
        have hrp7 := (hrp.step b7).read r7
        have hn7 := o7.1
        have hc7 := o7.cap
        rw [hn7] at hL30
        clear hrp hcw hblr hrcw hrc hcell hbl o7 b7 hbw hbs r7
        generalize recsOf M0 = M at *
        have HL7 := Lib.hid hn7
        have HLX := Lib.hid hLx
        have hLM : L.length + M.length ≤ (k + 1) * 30 := by omega
        clear hn7 hLx
        obtain ⟨lst, hlst⟩ : ∃ lst, (decide (k = 5) || decide (k + 1 = n)) = lst := ⟨_, rfl⟩
        have HLST := Lib.hid hlst
        clear hlst
        go_upto_region 12 with (fail)
        go_cut [65] from 42 to 118 (fun v wx => v = .bool lst ∧ wx = w7)
        case first =>
          by_cases h5 : k = 5
          · subst h5
            obtain rfl : lst = true := by rw [← HLST.out]; rfl
            go_wp2_with fail
            go_meet
            exact ⟨rfl, rfl⟩
          · have e5 : ((k : Int) == 5) = false := by simp; omega
            have hw1 : IntKind.i64.wrap ((n : Int) - 1) = (n : Int) - 1 := IntWalk.i64_in _ (by omega)
            by_cases h6 : k + 1 = n
            · obtain rfl : lst = true := by rw [← HLST.out, decide_eq_true h6]; simp
              have e6 : ((k : Int) == (n : Int) - 1) = true := by simp; omega
              go_wp2_with fail
              go_meet
              exact ⟨rfl, rfl⟩
            · obtain rfl : lst = false := by rw [← HLST.out, decide_eq_false h6, decide_eq_false h5]; rfl
              have e6 : ((k : Int) == (n : Int) - 1) = false := by simp; omega
              go_wp2_with fail
              go_meet
              exact ⟨rfl, rfl⟩
        case rest =>
          obtain ⟨rfl, hwc⟩ := hcut
          subst hwc
          go_upto_if 65 with (fail)
          go_cut [] from 42 to 118 (fun wx => ∃ (d1 : Dsk) (q1 : Option Nat), Lies L d1 ∧ (lst = false → d1.doomed = false) ∧ RP w wx g q1 d1 [(zs, stOf L)] As ns cs (stS L) Aa na ca L [(A7, M)])
          case first =>
            cases lst
            · go_wp2_with fail
              go_meet
              exact ⟨d, q, hlies, fun _ => hdm0, hrp7⟩
            · go_wp2_with fail
              refine (doom_any w.heap.size g q d keep wc hrp7.dk).mono ?_
              rintro e w5 ⟨q5, rfl, d5, t5, m5⟩
              go_wp2_with fail
              go_meet
              exact ⟨dDoom d keep, q5, ⟨hlies.1, hlies.2.1, hlies.2.2⟩, (fun h => by cases h), hrp7.disk d5 t5 m5⟩
          case rest =>
            obtain ⟨d1, q1, hlies1, hdm1, hrp1⟩ := hcut
            clear hrp7 hlies hdm hdm0
            obtain ⟨z1, z2, A1, n1, c1, kz, hsz⟩ := hrp1.vs (zs, stOf L) List.mem_cons_self
            have r7 := hrp1.rd (A7, M) List.mem_cons_self
            obtain ⟨t', e', d', hsv⟩ : ∃ a b c, sSave d1 (stOf L) M = (a, b, c) := ⟨_, _, _, rfl⟩
            have hrc := round_cases L M d1 d' t' e' hG hlies1 (by rw [HL7.out]; omega) hsv
            have hlen' : t'.log.length ≤ 70 := by have := sSave_len d1 (stOf L) M z2; rw [hsv] at this; exact this
            have HSV := Lib.hid hsv
            have HRC := Lib.hid hrc
            clear hsv hrc
            have hn1 : n1 ≤ 70 := by rw [← hsz.1]; exact z2
            simp only at kz hsz z1 z2
            unfold stCs at kz
            have y0 := kz.cell 0
            have y1 := kz.cell 1
            have y2 := kz.cell 2
            have y3 := kz.cell 3
            have hlz := kz.lt
            simp only [List.getElem?_toArray, List.getElem?_cons_zero, List.getElem?_cons_succ] at y0 y1 y2 y3
            have hbz := hrp1.bl.size
            go_wp2_with fail
            refine (save_any w.heap.size g q1 d1 (FR wc g [zs] q1 (ow As ns cs) (ow Aa na ca)) (stOf L) A1 n1 c1 M A7 n7 c7 wc (fun b' h => ⟨h.1, h.2.1, h.2.2.2.1⟩) hrp1.dk hbz hsz hn1 HL7.out hL30 hc7.1 r7 HLX.out).mono ?_
            rintro e w8 ⟨A8, n8, c8, q8, rfl, s8, d8, t8, m8⟩
            rw [HSV.out] at s8 d8 ⊢
            simp only at s8 d8 ⊢
            unfold stV
            have hrp8 := hrp1.disk d8 t8 m8
            have f8 := s8.mono (F' := FR w8 g [zs] q8 (ow As ns cs) (ow Aa na ca)) fun b' h hlt => by
              rcases h.1 with h1 | h1
              · exact ⟨hlt, h1.2.1, h1.2.2.1, h.2, h1.2.2.2.2⟩
              · have f := hrp1.fresh t8.size b' hlt (.inr h1)
                exact ⟨hlt, f.2.1, f.2.2.1, h.2, f.2.2.2.2⟩
            have hrp9 := hrp8.new f8 hlen'
            clear y0 y1 y2 y3 hlz kz hsz s8 d8 t8 m8 r7 hrp1 hrp8 f8 hbz
            obtain ⟨c0, hc0⟩ : ∃ c0, (e' == 0) = c0 := ⟨_, rfl⟩
            obtain ⟨c30, hc30⟩ : ∃ c30, (e' == 30) = c30 := ⟨_, rfl⟩
            have HC0 := Lib.hid hc0
            have HC30 := Lib.hid hc30
            clear hc0 hc30
            unfold stCs at hrp9
            obtain ⟨_, _, A12, n12, c12, k12, f12⟩ := hrp9.vs (w8.heap.size, t') List.mem_cons_self
            obtain ⟨_, _, A13, n13, c13, k13, f13⟩ := hrp9.vs (zs, stOf L) (List.mem_cons_of_mem _ List.mem_cons_self)
            go_upto_if 77 with (fail)
            rw [HC0.out]
            generalize w8.alloc (.cells #[.int .i64 t'.floor, .int .i64 t'.term, .int .i64 t'.vote, .slice A8 n8 c8] TSt) = w9 at *
            generalize w8.heap.size = z14 at *
            go_cut [] from 42 to 118 (fun wx => RP w wx g q8 d' [(zs, if c0 = true then t' else stOf L)] As ns cs (stS L) Aa na ca L [(A7, M)])
            case first =>
              cases c0
              · go_wp2_with fail
                go_meet
                exact hrp9.sub (fun v hv => List.mem_cons_of_mem _ hv) (by simp) (fun x hx => hx)
              · simp only at k12 k13 f12
                unfold stCs at k12 k13
                have y0 := k12.cell 0
                have y1 := k12.cell 1
                have y2 := k12.cell 2
                have y3 := k12.cell 3
                have x0 := k13.cell 0
                have x1 := k13.cell 1
                have x2 := k13.cell 2
                have x3 := k13.cell 3
                have u0 := k13.free 0
                have u1 := k13.free 1
                have u2 := k13.free 2
                have u3 := k13.free 3
                have hl12 := k12.lt
                have hl13 := k13.lt
                simp only [List.getElem?_toArray, List.getElem?_cons_zero, List.getElem?_cons_succ] at y0 y1 y2 y3 x0 x1 x2 x3
                have hnd := hrp9.nd
                have hzz : z14 ≠ zs := by
                  simp at hnd
                  exact hnd
                have hsw := hrp9.sub (V' := [(zs, stOf L), (z14, t')]) (fun v hv => by simp at hv ⊢; exact hv.symm) (by simp; exact fun h => hzz h.symm) (X' := [(A7, M)]) (fun x hx => hx)
                have hst := hsw.set (t' := t') (A := A12) (n := n12) (c := c12) (f12.mono fun b' h _ => ⟨h.1, h.2.1, fun e => h.2.2.1 (by simp at e ⊢; exact e.symm), h.2.2.2⟩) hlen'
                have hfin := hst.sub (V' := [(zs, t')]) (fun v hv => by simp at hv ⊢; exact .inl hv) (by simp) (X' := [(A7, M)]) (fun x hx => hx)
                clear hsw hst k12 k13 f12 f13 hnd
                go_wp2_with fail
                go_meet
                exact hfin
            case rest =>
              have hrp10 := hcut
              clear hcut hrp9 k12 k13 f12 f13
              have hns := Lib.hid (show ns = L.length + 1 by have := hrp10.st.1; rw [stS_len] at this; exact this.symm)
              have hna := Lib.hid (show na = L.length from hrp10.al.1.symm)
              go_upto_region 17 with (fail)
              go_cut [84] from 42 to 118 (fun v wx => v = .bool (c0 || c30) ∧ wx = wc)
              case first =>
                have q0 : (e' == 0) = c0 := HC0.out
                have q30 : (e' == 30) = c30 := HC30.out
                cases c0
                · go_wp2_with fail
                  go_meet
                  exact ⟨by simp, rfl⟩
                · go_wp2_with fail
                  go_meet
                  exact ⟨rfl, rfl⟩
              case rest =>
                obtain ⟨rfl, hwc⟩ := hcut
                subst hwc
                have hnext : ∀ (q' : Option Nat) (wx : World) (L' : List Rcd) (As' : Option Addr) (ns' cs' : Nat) (Aa' : Option Addr) (na' ca' : Nat) (s' : Stb), Good L' → L'.length ≤ (k + 1) * 30 → Lies L' d' → s' = stOf L' → d'.doomed = d1.doomed → RP w wx g q' d' [(zs, s')] As' ns' cs' (stS L') Aa' na' ca' L' [] →
                    ∃ (k_1 : Nat) (L : List Rcd) (d : Dsk) (q : Option Nat) (As : Option Addr) (ns cs : Nat) (Aa : Option Addr) (na ca : Nat), (Value.slice As' ns' cs') = .slice As ns cs ∧ (Value.slice Aa' na' ca') = .slice Aa na ca ∧ (Value.int .i64 ((k : Int) + 1)) = .int .i64 (k_1 : Nat) ∧ k_1 ≤ n ∧ k_1 ≤ 6 ∧ Good L ∧ L.length ≤ k_1 * 30 ∧ Lies L d ∧ ((k_1 < n ∧ k_1 < 6) → d.doomed = false) ∧ RP w wx g q d [(zs, stOf L)] As ns cs (stS L) Aa na ca L [] := by
                  intro q' wx L' As' ns' cs' Aa' na' ca' s' h1 h2 h3 h4 h5 h6
                  subst h4
                  refine ⟨k + 1, L', d', q', As', ns', cs', Aa', na', ca', rfl, rfl, by go_num, by omega, by omega, h1, h2, h3, fun h => ?_, h6⟩
                  rw [h5]
                  refine hdm1 ?_
                  rw [← HLST.out, decide_eq_false (by omega), decide_eq_false (by omega)]
                  rfl
                have HNEXT := Lib.hid hnext
                clear hnext
                obtain ⟨cc, hcc⟩ : ∃ cc, (c0 || c30) = cc := ⟨_, rfl⟩
                rw [hcc]
                go_upto_if 84 with (fail)
                cases cc
                · have hcz : c0 = false ∧ c30 = false := by simpa using hcc
                  have f30 : (e' == 30) = false := by rw [HC30.out, hcz.2]
                  have hlast : (if c0 = true then t' else stOf L) = stOf L := by rw [hcz.1]; rfl
                  rw [hlast] at hrp10
                  have hfin := hrp10.sub (V' := [(zs, stOf L)]) (fun v hv => hv) (by simp) (X' := []) (fun x hx => by cases hx)
                  have hd1 : d' = d1 := by
                    rcases HRC.out with ⟨h, _⟩ | ⟨h, _⟩ | ⟨_, _, _, h⟩
                    · have := HC0.out; rw [h, hcz.1] at this; cases this
                    · have := HC30.out; rw [h, hcz.2] at this; cases this
                    · exact h
                  have hlies' : Lies L d' := by rw [hd1]; exact hlies1
                  clear hrp10 hcc hcz
                  go_wp2_with fail
                  go_roundw
                  case rel => exact HNEXT.out q8 _ L As ns cs Aa na ca _ hG (by omega) hlies' rfl (by rw [hd1]) hfin
                  case measure => simp [intOf]; omega
                · have hgood : Good (L ++ M) := by
                    rcases HRC.out with ⟨_, h, _⟩ | ⟨_, _, h, _⟩ | ⟨h, h', _⟩
                    · exact h
                    · exact h
                    · exfalso
                      have e1 : c0 = false := by rw [← HC0.out]; simpa using h
                      have e2 : c30 = false := by rw [← HC30.out]; simpa using h'
                      rw [e1, e2] at hcc
                      cases hcc
                  have HCC := Lib.hid hcc
                  clear hcc
                  obtain ⟨s', hs'⟩ : ∃ s', (if c0 = true then t' else stOf L) = s' := ⟨_, rfl⟩
                  rw [hs'] at hrp10
                  have HS' := Lib.hid hs'
                  clear hs'
                  have hslen : s'.log.length ≤ 70 := (hrp10.vs (zs, s') List.mem_cons_self).2.1
                  obtain ⟨b9, off9, A9, n9, c9, rfl, hb9, p0, p1, p2, p3, f9⟩ := hrp10.st.at_ (stS_at L L.length (Nat.le_refl _))
                  rw [List.take_length] at p0 p1 p2 f9
                  have hl9 : (stOf L).log.length ≤ 70 := hrp10.sl (stOf L) (List.mem_of_getElem? (stS_at L L.length (Nat.le_refl _)) |> fun h => by rw [List.take_length] at h; exact h)
                  have hrp11 := hrp10.new f9 hl9
                  have hw1 : IntKind.i64.wrap ((ns : Int) - 1) = ((L.length : Nat) : Int) := by rw [show (ns : Int) - 1 = (L.length : Int) by have := hns.out; omega]; exact IntWalk.i64_in _ (by omega)
                  have hw2 : (((L.length : Nat) : Int)).toNat = L.length := Int.toNat_natCast _
                  have hw3 : L.length < ns := by have := hns.out; omega
                  unfold stCs at hrp11
                  go_upto_region 19 with (fail)
                  generalize wc.alloc (.cells #[.int .i64 (stOf L).floor, .int .i64 (stOf L).term, .int .i64 (stOf L).vote, .slice A9 n9 c9] TSt) = wa at *
                  generalize wc.heap.size = za at *
                  clear p0 p1 p2 p3 f9 hw1 hw2 hw3 hb9 hrp10
                  have HNS := hns
                  have HNA := hna
                  clear hns hna
                  go_wp2_with fail
                  go_loopw [10, 11, 17] (fun vst val i wr => ∃ (j : Nat) (As : Option Addr) (ns cs : Nat) (Aa : Option Addr) (na ca : Nat), vst = .slice As ns cs ∧ val = .slice Aa na ca ∧ i = .int .i64 j ∧ j ≤ n7 ∧ RP w wr g q8 d' [(za, stOf (L ++ M.take j)), (zs, s')] As ns cs (stS (L ++ M.take j)) Aa na ca (L ++ M.take j) [(A7, M)]) (fun _ _ i _ => n7 - (intOf i).toNat)
                  case atStart => exact ⟨0, _, _, _, _, _, _, rfl, rfl, rfl, by omega, by simpa using hrp11⟩
                  case round =>
                    clear hrp11 HNS HNA
                    obtain ⟨j, As, ns, cs, Aa, na, ca, rfl, rfl, rfl, hj, hrp⟩ := hrel
                    have hns := Lib.hid (show ns ≤ 200 by have := hrp.st.1; rw [stS_len, List.length_append, List.length_take] at this; omega)
                    have hna := Lib.hid (show na ≤ 200 by have := hrp.al.1; rw [List.length_append, List.length_take] at this; omega)
                    by_cases hlt : j < n7
                    · have hx : M[j]? = some (M[j]'(by rw [HL7.out]; exact hlt)) := List.getElem?_eq_getElem _
                      have hxm : M[j]'(by rw [HL7.out]; exact hlt) ∈ M := List.getElem_mem _
                      have hRM := hrp.rd (A7, M) List.mem_cons_self
                      have hat := hRM.at_ hx
                      obtain ⟨b, off, Ac, cc, hA7, hfb, hbl, c0, c1, c2, c3, hcc, hcm', hbs, g1, g2, g3⟩ := hat
                      simp only at hA7
                      subst hA7
                      have hg := Lib.hid (show M.take (j + 1) = M.take j ++ [M[j]'(by rw [HL7.out]; exact hlt)] by rw [List.take_succ_eq_append_getElem (by rw [HL7.out]; exact hlt)])
                      have HXM := Lib.hid hxm
                      have hgj := Lib.hid (hgood.take (L.length + (j + 1)))
                      have HXJ := Lib.hid hx
                      clear hx hxm
                      generalize M[j]'(by rw [HL7.out]; exact hlt) = x at *
                      obtain ⟨mx, hmx⟩ : ∃ mx, x.x.length = mx := ⟨_, rfl⟩
                      rw [hmx] at c3 hcc
                      have HMX := Lib.hid hmx
                      have hmxb : mx ≤ 1000000 := by rw [← hmx]; exact HLX.out x HXM.out
                      clear hmx
                      have hgl := Lib.hid (show L ++ M.take (j + 1) = (L ++ M.take j) ++ [x] by rw [hg.out, List.append_assoc])
                      have hgd : Good ((L ++ M.take j) ++ [x]) := by
                        have := hgj.out
                        rw [List.take_append, List.take_of_length_le (by omega), show L.length + (j + 1) - L.length = j + 1 by omega, hgl.out] at this
                        exact this
                      have hgd0 : Good (L ++ M.take j) := by
                        have := hgd.take (L ++ M.take j).length
                        rwa [List.take_left'] at this
                        rfl
                      obtain ⟨N, hN⟩ : ∃ N, L ++ M.take j = N := ⟨_, rfl⟩
                      rw [hN] at hrp hgd hgd0 hgl
                      have hstep : sStep (stOf N) x = (stOf (N ++ [x]), 0) := by
                        have h1 := steps_snoc st0 N x hgd0.2
                        have h2 := hgd.2
                        rw [h1] at h2
                        by_cases h0 : (sStep (steps st0 N).1 x).2 = 0
                        · have e1 : stOf (N ++ [x]) = (sStep (steps st0 N).1 x).1 := by unfold stOf; rw [h1, if_pos h0]
                          rw [e1, ← h0]
                          rfl
                        · rw [if_neg h0] at h2
                          exact absurd h2 h0
                      have HSTEP := Lib.hid hstep
                      have HN' := Lib.hid hN
                      have HGL := hgl
                      clear hstep hN hgl hgj hg
                      obtain ⟨y1, y2, A1, n1, c1', kz, hsz⟩ := hrp.vs (za, stOf N) List.mem_cons_self
                      simp only at y1 y2 kz hsz
                      unfold stCs at kz
                      have hn1 : n1 ≤ 70 := by rw [← hsz.1]; exact y2
                      have hbz := hrp.bl.size
                      have hlen8 : (stOf (N ++ [x])).log.length ≤ 70 := by have := sStep_len (stOf N) x y2; rw [HSTEP.out] at this; exact this
                      obtain ⟨FQ, hFQ⟩ : ∃ FQ, FQ = FR wr g [za, zs] q8 (ow As ns cs) (ow Aa na ca) := ⟨_, rfl⟩
                      have hsz' : StF wr FQ (stOf N) A1 n1 c1' := by rw [hFQ]; exact hsz
                      have HFQ := Lib.hid (show ∀ b, FQ b → FR wr g [za, zs] q8 (ow As ns cs) (ow Aa na ca) b by rw [hFQ]; exact fun _ h => h)
                      have hbs1 := hbs.bs
                      clear hFQ hsz
                      go_upto_region 22 with (fail)
                      refine wp_region_invG (R := (fun _ _ _ a b => Below w.heap.size a b)) (B := w.heap.size) (by kernel_rfl) ?hB22 ?hRB22 [.valAt 0 0 (.agg #[.int .i64 (stOf N).floor, .int .i64 (stOf N).term, .int .i64 (stOf N).vote, .slice A1 n1 c1']), .val (.slice (some ⟨b, off, none⟩) n7 c7), .val (.int .i64 (j : Nat)), .val (.pointer (some ⟨b, off + j * 4, none⟩)), .valAt 0 0 (.agg #[.int .i64 x.kind, .int .i64 x.a, .int .i64 x.b, .slice Ac mx cc]), .at 0 (IsStT (fun b => FQ b ∨ wr.heap.size ≤ b) (stOf (N ++ [x])) 0) (isStT_step _ _ _), .same 0 5 (fun v => ∃ x, v = .tuple #[x, .int .i64 0]), .fst 0 5, .val (.int .i64 0), .fxAt 0 undef] [9] (fun s _ wx => (s = 0 → Below wr.heap.size wr wx) ∧ (s = 1 → RP w wx g q8 d' [(za, stOf (N ++ [x])), (zs, s')] As ns cs (stS N) Aa na ca N [(some ⟨b, off, none⟩, M)])) (T := ?T22) (by kernel_rfl) ?hSt22 (0, 0) ?h022 ?hT22 ?hask22 ?hend22
                      case hB22 =>
                        omega
                      case hRB22 =>
                        exact fun _ _ _ _ _ h => h
                      case hSt22 =>
                        exact fun s _ x y hb h => ⟨fun hs => chain (h.1 hs) hb, fun hs => (h.2 hs).step hb⟩
                      case h022 =>
                        exact ⟨fun _ => Below.refl _ _, (fun h => by cases h)⟩
                      case hT22 =>
                        intro vs
                        simp only [fill, Act.put, List.setIfInBounds_toArray, List.set_cons_succ, List.set_cons_zero, Nat.reduceAdd]
                        exact rfl
                      case hask22 =>
                        refine askG_cons (fun vs w1 s y hlo hhi hb hst hd hin => ?_) ?_
                        · obtain rfl : s = 0 := Nat.le_antisymm hhi hlo
                          clear hlo hhi
                          have hst0 : Below wr.heap.size wr w1 := hst.1 rfl
                          simp only [DepG, Region.binds, GxI, List.getD_cons_zero, List.getD_cons_succ, Gx.av_val, Gx.av_valAt, Gx.av_fxAt, Gx.av_bsAt, Gx.av_ownAt, Gx.av_fxOwn, Gx.av_at, Gx.av_fx, Gx.av_on, Gx.av_fxOn, Gx.av_till, Gx.av_fxG, Gx.av_same, Gx.av_fst, Gx.av_till, Gx.av_fxG, Gx.av_same, Gx.av_fst, and_true] at hd
                          have hk1 := kz.below hst0 kz.lt
                          have y0 := hk1.cell 0
                          have y1 := hk1.cell 1
                          have y2 := hk1.cell 2
                          have y3 := hk1.cell 3
                          simp only [List.getElem?_toArray, List.getElem?_cons_zero, List.getElem?_cons_succ] at y0 y1 y2 y3
                          have hl9 := hk1.lt
                          go_simp
                          exact givg_pure rfl rfl
                        iterate 3 (refine askG_cons (fun vs w1 s y hlo hhi hb hst hd hin => ?_) ?_; (focus (clear hlo hhi hst hin; simp only [DepG, Region.binds, GxI, List.getD_cons_zero, List.getD_cons_succ, Gx.av_val, Gx.av_valAt, Gx.av_fxAt, Gx.av_bsAt, Gx.av_ownAt, Gx.av_fxOwn, Gx.av_at, Gx.av_fx, Gx.av_on, Gx.av_fxOn, Gx.av_till, Gx.av_fxG, Gx.av_same, Gx.av_fst, and_true] at hd; go_simp; exact givg_pure rfl rfl)))
                        refine askG_cons (fun vs w1 s y hlo hhi hb hst hd hin => ?_) ?_
                        · obtain rfl : s = 0 := Nat.le_antisymm hhi hlo
                          clear hlo hhi
                          have hst0 : Below wr.heap.size wr w1 := hst.1 rfl
                          simp only [DepG, Region.binds, GxI, List.getD_cons_zero, List.getD_cons_succ, Gx.av_val, Gx.av_valAt, Gx.av_fxAt, Gx.av_bsAt, Gx.av_ownAt, Gx.av_fxOwn, Gx.av_at, Gx.av_fx, Gx.av_on, Gx.av_fxOn, Gx.av_till, Gx.av_fxG, Gx.av_same, Gx.av_fst, Gx.av_till, Gx.av_fxG, Gx.av_same, Gx.av_fst, and_true] at hd
                          have d0 := (World.cell?_of_block (a := ⟨b, off + j * 4, none⟩) (hst0.block b hbl)).trans c0
                          have d1 := (World.cell?_of_block (a := ⟨b, off + j * 4 + 1, none⟩) (hst0.block b hbl)).trans c1
                          have d2 := (World.cell?_of_block (a := ⟨b, off + j * 4 + 2, none⟩) (hst0.block b hbl)).trans c2
                          have d3 := (World.cell?_of_block (a := ⟨b, off + j * 4 + 3, none⟩) (hst0.block b hbl)).trans c3
                          have hbl1 : b < w1.heap.size := Nat.lt_of_lt_of_le hbl hst0.size
                          go_simp
                          exact givg_pure rfl rfl
                        refine askG_cons (fun vs w1 s y hlo hhi hb hst hd hin => ?_) ?_
                        · obtain rfl : s = 0 := Nat.le_antisymm hhi hlo
                          clear hlo hhi
                          have hst0 : Below wr.heap.size wr w1 := hst.1 rfl
                          simp only [DepG, Region.binds, GxI, List.getD_cons_zero, List.getD_cons_succ, Gx.av_val, Gx.av_valAt, Gx.av_fxAt, Gx.av_bsAt, Gx.av_ownAt, Gx.av_fxOwn, Gx.av_at, Gx.av_fx, Gx.av_on, Gx.av_fxOn, Gx.av_till, Gx.av_fxG, Gx.av_same, Gx.av_fst, Gx.av_till, Gx.av_fxG, Gx.av_same, Gx.av_fst, and_true] at hd
                          have hsz0 := hst0.size
                          go_simp
                          refine givg_enter ((step_any FQ (stOf N) A1 n1 c1' x Ac mx cc w1 (fun b' h => Nat.lt_of_lt_of_le (HFQ.out b' h).1 hsz0) (hsz'.step hst0) (by omega) HMX.out hmxb ((hbs1.below hst0).more hsz0) g2 g3).mono ?_)
                          rintro e w2' ⟨A9, n9, c9, rfl, s9, b9⟩
                          rw [HSTEP.out] at s9 ⊢
                          exact ⟨_, rfl, givg_of rfl b9 ⟨A9, n9, c9, rfl, s9.mono fun b' h _ => h.imp id fun h => by omega⟩⟩
                        refine askG_cons (fun vs w1 s y hlo hhi hb hst hd hin => ?_) ?_
                        · obtain rfl : s = 0 := Nat.le_antisymm hhi hlo
                          clear hlo hhi
                          have hst0 : Below wr.heap.size wr w1 := hst.1 rfl
                          simp only [DepG, Region.binds, GxI, List.getD_cons_zero, List.getD_cons_succ, Gx.av_val, Gx.av_valAt, Gx.av_fxAt, Gx.av_bsAt, Gx.av_ownAt, Gx.av_fxOwn, Gx.av_at, Gx.av_fx, Gx.av_on, Gx.av_fxOn, Gx.av_till, Gx.av_fxG, Gx.av_same, Gx.av_fst, Gx.av_till, Gx.av_fxG, Gx.av_same, Gx.av_fst, and_true] at hd
                          obtain ⟨A9, n9, c9, hv, _⟩ := hd (Nat.le_refl _)
                          go_simp
                          exact givg_pure rfl ⟨hv.symm, _, rfl⟩
                        refine askG_cons (fun vs w1 s y hlo hhi hb hst hd hin => ?_) ?_
                        · clear hlo hhi
                          simp only [DepG, Region.binds, GxI, List.getD_cons_zero, List.getD_cons_succ, Gx.av_val, Gx.av_valAt, Gx.av_fxAt, Gx.av_bsAt, Gx.av_ownAt, Gx.av_fxOwn, Gx.av_at, Gx.av_fx, Gx.av_on, Gx.av_fxOn, Gx.av_till, Gx.av_fxG, Gx.av_same, Gx.av_fst, Gx.av_till, Gx.av_fxG, Gx.av_same, Gx.av_fst, and_true] at hd
                          obtain ⟨h8, x8, hx⟩ := hd
                          have h7 : vs 5 = .tuple #[x8, .int .i64 0] := h8.symm.trans hx
                          go_simp
                          exact givg_pure rfl ⟨_, h7⟩
                        refine askG_cons (fun vs w1 s y hlo hhi hb hst hd hin => ?_) ?_
                        · clear hlo hhi
                          simp only [DepG, Region.binds, GxI, List.getD_cons_zero, List.getD_cons_succ, Gx.av_val, Gx.av_valAt, Gx.av_fxAt, Gx.av_bsAt, Gx.av_ownAt, Gx.av_fxOwn, Gx.av_at, Gx.av_fx, Gx.av_on, Gx.av_fxOn, Gx.av_till, Gx.av_fxG, Gx.av_same, Gx.av_fst, Gx.av_till, Gx.av_fxG, Gx.av_same, Gx.av_fst, and_true] at hd
                          obtain ⟨⟨h8, x8, hx⟩, _⟩ := hd
                          have h7 : vs 5 = .tuple #[x8, .int .i64 0] := h8.symm.trans hx
                          go_simp
                          exact givg_pure rfl rfl
                        refine askG_cons (fun vs w1 s y hlo hhi hb hst hd hin => ?_) ?_
                        · obtain rfl : s = 0 := Nat.le_antisymm hhi hlo
                          clear hlo hhi
                          have hst0 : Below wr.heap.size wr w1 := hst.1 rfl
                          simp only [DepG, Region.binds, GxI, List.getD_cons_zero, List.getD_cons_succ, Gx.av_val, Gx.av_valAt, Gx.av_fxAt, Gx.av_bsAt, Gx.av_ownAt, Gx.av_fxOwn, Gx.av_at, Gx.av_fx, Gx.av_on, Gx.av_fxOn, Gx.av_till, Gx.av_fxG, Gx.av_same, Gx.av_fst, Gx.av_till, Gx.av_fxG, Gx.av_same, Gx.av_fst, and_true] at hd
                          obtain ⟨u9, hu9⟩ := hd.1
                          obtain ⟨A9, n9, c9, hv5, sf⟩ := hd.2.1 (Nat.le_refl 0)
                          clear hd
                          have hv : vs 7 = .agg #[.int .i64 (stOf (N ++ [x])).floor, .int .i64 (stOf (N ++ [x])).term, .int .i64 (stOf (N ++ [x])).vote, .slice A9 n9 c9] := by
                            rw [hv5] at hu9
                            injection hu9 with hu9
                            have h0 := congrArg (fun a : Array Value => a[0]?) hu9
                            simp only [List.getElem?_toArray, List.getElem?_cons_zero] at h0
                            injection h0 with h0
                            exact h0.symm
                          clear hu9 hv5
                          have kz1 := kz.below hst0 kz.lt
                          have u0 := kz1.cell 0
                          have u1 := kz1.cell 1
                          have u2 := kz1.cell 2
                          have u3 := kz1.cell 3
                          have z0 := kz1.free 0
                          have z1 := kz1.free 1
                          have z2 := kz1.free 2
                          have z3 := kz1.free 3
                          simp only [List.getElem?_toArray, List.getElem?_cons_zero, List.getElem?_cons_succ] at u0 u1 u2 u3
                          have hrp1 := hrp.step hst0
                          have hfin := hrp1.set (t' := stOf (N ++ [x])) (A := A9) (n := n9) (c := c9) (sf.mono fun b' h hlt => by
                            rcases h with h | h
                            · exact ⟨hlt, (HFQ.out b' h).2⟩
                            · exact hrp.fresh hst0.size b' hlt (.inr h)) hlen8
                          generalize vs 7 = v7 at *
                          subst hv
                          go_simp
                          exact givg_skip y rfl ((((((Below.refl w.heap.size w1).setCell (by show w.heap.size ≤ za; omega) _).setCell (by show w.heap.size ≤ za; omega) _).setCell (by show w.heap.size ≤ za; omega) _).setCell (by show w.heap.size ≤ za; omega) _)) ⟨(fun h => by cases h), fun _ => hfin⟩ rfl
                        exact askG_nil
                      case hend22 =>
                        intro vs w1 y hb hst hd
                        simp only [AllG, GxI, List.getD_cons_zero, List.getD_cons_succ, Gx.av_val, Gx.av_valAt, Gx.av_fxAt, Gx.av_bsAt, Gx.av_ownAt, Gx.av_fxOwn, Gx.av_at, Gx.av_fx, Gx.av_on, Gx.av_fxOn, Gx.av_till, Gx.av_fxG, Gx.av_same, Gx.av_fst, and_true, Nat.reduceAdd] at hd
                        have hlast := hd.2.2.2.2.2.2.2.2.2
                        clear hd
                        have hrp2 := hst.2 rfl
                        clear hst hb hlast hrp kz hsz' HFQ hbs1 c0 c1 c2 c3 hRM hfb hbl hbs hcc hcm'
                        obtain ⟨_, _, A2, n2, c2', kz2, sz2⟩ := hrp2.vs (za, stOf (N ++ [x])) List.mem_cons_self
                        simp only at kz2 sz2
                        unfold stCs at kz2
                        have ba := (Below.refl w1.heap.size w1).alloc (Nat.le_refl _) (.cells #[.int .i64 (stOf (N ++ [x])).floor, .int .i64 (stOf (N ++ [x])).term, .int .i64 (stOf (N ++ [x])).vote, .slice A2 n2 c2'] TSt)
                        have kl := Blk.new w1 TSt #[.int .i64 (stOf (N ++ [x])).floor, .int .i64 (stOf (N ++ [x])).term, .int .i64 (stOf (N ++ [x])).vote, .slice A2 n2 c2']
                        have hrp3 := hrp2.step ba
                        have hown3 := hrp3.st
                        have hr3 : Rd (w1.alloc (.cells #[.int .i64 (stOf (N ++ [x])).floor, .int .i64 (stOf (N ++ [x])).term, .int .i64 (stOf (N ++ [x])).vote, .slice A2 n2 c2'] TSt)) (w1.alloc (.cells #[.int .i64 (stOf (N ++ [x])).floor, .int .i64 (stOf (N ++ [x])).term, .int .i64 (stOf (N ++ [x])).vote, .slice A2 n2 c2'] TSt)).heap.size (some ⟨w1.heap.size, 0, none⟩) [.int .i64 (stOf (N ++ [x])).floor, .int .i64 (stOf (N ++ [x])).term, .int .i64 (stOf (N ++ [x])).vote, .slice A2 n2 c2'] := Rd.of_blk kl
                        have hin3 := Lib.hid (show StAt (w1.alloc (.cells #[.int .i64 (stOf (N ++ [x])).floor, .int .i64 (stOf (N ++ [x])).term, .int .i64 (stOf (N ++ [x])).vote, .slice A2 n2 c2'] TSt)) (FR (w1.alloc (.cells #[.int .i64 (stOf (N ++ [x])).floor, .int .i64 (stOf (N ++ [x])).term, .int .i64 (stOf (N ++ [x])).vote, .slice A2 n2 c2'] TSt)) g ([(za, stOf (N ++ [x])), (zs, s')].map Prod.fst) q8 (ow As ns cs) (ow Aa na ca)) [.int .i64 (stOf (N ++ [x])).floor, .int .i64 (stOf (N ++ [x])).term, .int .i64 (stOf (N ++ [x])).vote, .slice A2 n2 c2'] 0 (stOf (N ++ [x])) from ⟨A2, n2, c2', rfl, rfl, rfl, rfl, (sz2.step ba).mono fun b' h hlt => ⟨hlt, h.2⟩⟩)
                        have hF3 := Lib.hid (show ∀ b', FR (w1.alloc (.cells #[.int .i64 (stOf (N ++ [x])).floor, .int .i64 (stOf (N ++ [x])).term, .int .i64 (stOf (N ++ [x])).vote, .slice A2 n2 c2'] TSt)) g ([(za, stOf (N ++ [x])), (zs, s')].map Prod.fst) q8 (ow As ns cs) (ow Aa na ca) b' → b' < (w1.alloc (.cells #[.int .i64 (stOf (N ++ [x])).floor, .int .i64 (stOf (N ++ [x])).term, .int .i64 (stOf (N ++ [x])).vote, .slice A2 n2 c2'] TSt)).heap.size → some b' ≠ (Value.slice As ns cs).ownBlock from fun b' h _ => h.2.2.2.2.1)
                        have hbz3 := hrp3.bl.size
                        have hns200 := hns.out
                        have y0 := kz2.cell 0
                        have y1 := kz2.cell 1
                        have y2 := kz2.cell 2
                        have y3 := kz2.cell 3
                        simp only [List.getElem?_toArray, List.getElem?_cons_zero, List.getElem?_cons_succ] at y0 y1 y2 y3
                        have hlz2 := kz2.lt
                        go_upto_region 24 with (at_builtin; refine appT rfl (.tmp 106) (.tmp 108) rfl rfl hown3 rfl rfl hr3 hin3.out (fun u hu => by simp at hu; rcases hu with rfl | rfl | rfl | rfl <;> rfl) (by omega) hbz3 hF3.out ?_; intro A5 c5 w5 o5 g5 hA5)
                        have hrp5 := hrp3.appS hlen8 o5 g5 hA5
                        rw [← stS_snoc] at hrp5
                        clear hrp2 hrp3 hown3 hr3 hin3 hF3 hbz3 y0 y1 y2 y3 hlz2 kz2 sz2 ba kl o5 g5 hA5
                        obtain ⟨b', off', Ac2, cc2, hA', _, hbl2, d0, d1, d2, d3, hcc2, hcm2, hbs2, i1, i2, i3⟩ := (hrp5.rd (some ⟨b, off, none⟩, M) List.mem_cons_self).at_ HXJ.out
                        simp only at hA'
                        injection hA' with hA'
                        injection hA' with e1 e2
                        subst e1 e2
                        rw [HMX.out] at d3 hcc2
                        have ba := (Below.refl w5.heap.size w5).alloc (Nat.le_refl _) (.cells #[.int .i64 x.kind, .int .i64 x.a, .int .i64 x.b, .slice Ac2 mx cc2] TRec)
                        have kl := Blk.new w5 TRec #[.int .i64 x.kind, .int .i64 x.a, .int .i64 x.b, .slice Ac2 mx cc2]
                        have hrp6 := hrp5.step ba
                        have hown6 := hrp6.al
                        have hr6 : Rd (w5.alloc (.cells #[.int .i64 x.kind, .int .i64 x.a, .int .i64 x.b, .slice Ac2 mx cc2] TRec)) (w5.alloc (.cells #[.int .i64 x.kind, .int .i64 x.a, .int .i64 x.b, .slice Ac2 mx cc2] TRec)).heap.size (some ⟨w5.heap.size, 0, none⟩) [.int .i64 x.kind, .int .i64 x.a, .int .i64 x.b, .slice Ac2 mx cc2] := Rd.of_blk kl
                        have hin6 := Lib.hid (show ∀ i y, [x][i]? = some y → RcAt (w5.alloc (.cells #[.int .i64 x.kind, .int .i64 x.a, .int .i64 x.b, .slice Ac2 mx cc2] TRec)) (FR (w5.alloc (.cells #[.int .i64 x.kind, .int .i64 x.a, .int .i64 x.b, .slice Ac2 mx cc2] TRec)) g ([(za, stOf (N ++ [x])), (zs, s')].map Prod.fst) q8 (ow A5 (ns + 1) c5) (ow Aa na ca)) [.int .i64 x.kind, .int .i64 x.a, .int .i64 x.b, .slice Ac2 mx cc2] i y from fun i y hy => by
                          match i, hy with
                          | 0, hy =>
                            obtain rfl : x = y := by simpa using hy
                            exact ⟨Ac2, cc2, rfl, rfl, rfl, by show some (Value.slice Ac2 mx cc2) = _; rw [HMX.out], by rw [HMX.out]; exact hcc2, hcm2, (hbs2.keep ba.size fun b _ hlt => ba.block b hlt).mono (fun b' h hlt => ⟨hlt, h.2⟩), i1, i2, i3⟩)
                        have hF6 := Lib.hid (show ∀ b', FR (w5.alloc (.cells #[.int .i64 x.kind, .int .i64 x.a, .int .i64 x.b, .slice Ac2 mx cc2] TRec)) g ([(za, stOf (N ++ [x])), (zs, s')].map Prod.fst) q8 (ow A5 (ns + 1) c5) (ow Aa na ca) b' → b' < (w5.alloc (.cells #[.int .i64 x.kind, .int .i64 x.a, .int .i64 x.b, .slice Ac2 mx cc2] TRec)).heap.size → some b' ≠ (Value.slice Aa na ca).ownBlock from fun b' h _ => h.2.2.2.2.2)
                        have hbz6 := hrp6.bl.size
                        have hna200 := hna.out
                        go_wp2_with (at_builtin; refine appC rfl (.tmp 110) (.tmp 115) rfl rfl hown6 rfl (L2 := [x]) (vs2 := [.int .i64 x.kind, .int .i64 x.a, .int .i64 x.b, .slice Ac2 mx cc2]) rfl rfl hr6 hin6.out (fun u hu => by simp at hu; rcases hu with rfl | rfl | rfl | rfl <;> rfl) (by omega) hbz6 hF6.out ?_; intro A6 c6 w7 o7 g7 hA9)
                        have hrp7 := hrp6.appA o7 g7 hA9
                        rw [← HGL.out] at hrp7
                        go_roundw
                        case rel => exact ⟨j + 1, A5, ns + 1, c5, A6, na + 1, c6, by rfl, by rfl, by go_num, by omega, hrp7⟩
                        case measure => simp [intOf]; omega
                    · obtain rfl : j = n7 := by omega
                      rw [List.take_of_length_le (by rw [HL7.out]; exact Nat.le_refl _)] at hrp
                      have hLM' : (L ++ M).length ≤ (k + 1) * 30 := by rw [List.length_append]; exact hLM
                      cases c30
                      · have f30 : (e' == 30) = false := HC30.out
                        have hc0 : c0 = true := by have := HCC.out; rwa [Bool.or_false] at this
                        have hc : t' = stOf (L ++ M) ∧ Lies (L ++ M) d' ∧ d'.doomed = d1.doomed := by
                          rcases HRC.out with ⟨h1, h2, h3, h4, h5⟩ | ⟨h, _⟩ | ⟨h, h', _⟩
                          · exact ⟨h3, h4, h5⟩
                          · rw [h] at f30; cases f30
                          · exfalso
                            have e1 : c0 = false := by rw [← HC0.out]; simpa using h
                            rw [e1] at hc0
                            cases hc0
                        have hs9 : s' = stOf (L ++ M) := by rw [← HS'.out, hc0]; exact hc.1
                        have hfin := hrp.sub (V' := [(zs, s')]) (fun v hv => List.mem_cons_of_mem _ hv) (by simp) (X' := []) (fun x hx => by cases hx)
                        have hc2 := Lib.hid hc
                        clear hc hrp
                        go_wp2_with fail
                        go_roundw
                        case rel => exact HNEXT.out q8 wr (L ++ M) As ns cs Aa na ca s' hgood hLM' hc2.out.2.1 hs9 hc2.out.2.2 hfin
                        case measure => simp [intOf]; omega
                      · have f30 : (e' == 30) = true := HC30.out
                        have he30 : e' = 30 := by simpa using f30
                        have hb30 : ∃ jj, d'.b = (saveB (L ++ M)).take jj := by
                          rcases HRC.out with ⟨h1, _⟩ | ⟨_, _, _, _, h⟩ | ⟨_, h', _⟩
                          · rw [h1] at he30; cases he30
                          · exact h
                          · exact absurd he30 h'
                        have hfin := hrp.sub (V' := []) (fun v hv => by cases hv) (by simp) (X' := []) (fun x hx => by cases hx)
                        obtain ⟨jj, hjj⟩ := hb30
                        clear hrp he30
                        go_wp2_with fail
                        go_meet
                        exact ⟨L ++ M, d', q8, jj, As, ns, cs, Aa, na, ca, rfl, rfl, hgood, by omega, hjj, hfin⟩
      · have hj : d.b = (saveB L).take (saveB L).length := by rw [List.take_length]; exact hlies.1
        have hrp' := hrp.sub (V' := []) (fun v hv => by cases hv) (by simp) (X' := []) (fun x hx => hx)
        by_cases hkn : k < n
        · obtain rfl : k = 6 := by omega
          go_wp2_with fail
          go_meet
          exact ⟨L, d, q, _, As, ns, cs, Aa, na, ca, rfl, rfl, hG, by omega, hj, hrp'⟩
        · obtain rfl : k = n := by omega
          go_wp2_with fail
          go_meet
          exact ⟨L, d, q, _, As, ns, cs, Aa, na, ca, rfl, rfl, hG, by omega, hj, hrp'⟩
  case rest =>
    obtain ⟨L, d, q, j, As, ns, cs, Aa, na, ca, rfl, rfl, hG, hL180, hdb, hrp⟩ := hcut
    go_wp2_with fail
    refine (up_any w.heap.size g q d _ hrp.dk).mono ?_
    rintro e w4 ⟨q4, rfl, d4, t4, m4⟩
    have hrp4 := hrp.disk d4 t4 m4
    have hub : (dUp d).1.b = (saveB L).take j := by rw [← hdb]; unfold dUp; split <;> rfl
    have hub2 := (hrp4.dk).2.1.2
    generalize (dUp d).1 = du at *
    generalize (dUp d).2 = eu at *
    clear hrp d4 t4 m4 hdb
    go_wp2_with fail
    refine (bytes_any w.heap.size g q4 du _ hrp4.dk).mono ?_
    rintro e w5 ⟨A5, n5, c5, rfl, o5, b5⟩
    rw [hub] at o5 hub2
    have hrp5 := hrp4.step b5
    have hn5 := o5.1
    have hc5 := o5.cap
    have hbs5 := o5.bs
    obtain ⟨bb, hbb⟩ : ∃ bb, (saveB L).take j = bb := ⟨_, rfl⟩
    obtain ⟨K, hK⟩ := whole_of hG j
    rw [hbb] at hbs5 hn5 hK hub2
    have HN5 := Lib.hid hn5
    have HBB := Lib.hid hbb
    have hn5b : n5 ≤ 65536 := by omega
    clear hbb hn5 o5 hub hub2 hrp4 b5
    go_wp2_with fail
    refine (replay_any A5 bb n5 c5 w5 HN5.out hc5.1 hc5.2 (by omega) hbs5).mono ?_
    rintro e w6 ⟨A6, n6, c6, rfl, s6, hl6, b6⟩
    rw [hK.rep] at s6 hl6 ⊢
    simp only at s6 hl6 ⊢
    obtain ⟨x, hx⟩ : ∃ x, stOf (L.take K) = x := ⟨_, rfl⟩
    obtain ⟨nz, hnz⟩ : ∃ nz, szR (L.take K) = nz := ⟨_, rfl⟩
    rw [hx] at s6 hl6 ⊢
    rw [hnz]
    have hsz := hK.sz
    rw [hnz, HN5.out] at hsz
    have HX := Lib.hid hx
    have HNZ := Lib.hid hnz
    have hrp6 := hrp5.step b6
    have hrp7 := hrp6.new (s6.mono fun b' h hlt => hrp5.fresh b6.size b' hlt (.inr h)) hl6
    have hbs6 := hbs5.step b6
    have hbs7 := hbs6.step ((Below.refl w6.heap.size w6).alloc (Nat.le_refl _) (.cells (stCs x A6 n6 c6) TSt))
    have HNS := Lib.hid (show ns = L.length + 1 by have := hrp7.st.1; rw [stS_len] at this; exact this.symm)
    have HNA := Lib.hid (show na = L.length from hrp7.al.1.symm)
    have HK := Lib.hid hK
    clear hx hnz hK hrp5 hrp6 hbs5 hbs6 s6
    unfold stCs at hrp7 hbs7
    have hnzb : (nz : Int) ≤ (n5 : Int) := by omega
    go_upto_region 29 with (fail)
    generalize w6.alloc (.cells #[.int .i64 x.floor, .int .i64 x.term, .int .i64 x.vote, .slice A6 n6 c6] TSt) = w7 at *
    generalize w6.heap.size = z19 at *
    go_cut [135] from 119 to 136 (fun v wx => v = .bool false ∧ wx = w7)
    case first =>
      have hn1 : ¬ (n5 : Int) < (nz : Int) := by omega
      have hn2 : ¬ (nz : Int) < 0 := by omega
      go_wp2_with fail
      go_meet
      exact ⟨by simp, rfl⟩
    case rest =>
    obtain ⟨rfl, hwc⟩ := hcut
    subst hwc
    go_upto_region 32 with (fail)
    have hxk : ∀ k, k ≤ L.length → (stS L)[k]? = some (stOf (L.take k)) := fun k h => stS_at L k h
    go_upto_block 4 with fail
    go_cut [21] from 21 to 228 (fun v wx => v = .int .i64 (K : Nat) ∧ Below wc.heap.size wc wx)
    case first =>
      go_wp2_with fail
      go_loopw [21, 22] (fun f i wr => ∃ k : Nat, f = .int .i64 (if K < k then ((K : Nat) : Int) else -1) ∧ i = .int .i64 k ∧ k ≤ ns ∧ Below wc.heap.size wc wr) (fun _ i _ => ns - (intOf i).toNat)
      case atStart => exact ⟨0, by rw [if_neg (Nat.not_lt_zero _)], rfl, by omega, Below.refl _ _⟩
      case round =>
        obtain ⟨k, rfl, rfl, hk, hbl⟩ := hrel
        by_cases hlt : k < ns
        · have hkL : k ≤ L.length := by have := HNS.out; omega
          have hrpr := hrp7.step hbl
          obtain ⟨b9, off9, A9, n9, c9, hAs, hb9, p0, p1, p2, p3, f9⟩ := hrpr.st.at_ (hxk k hkL)
          subst hAs
          obtain ⟨_, hx70, A8, n8, c8, kx, f8⟩ := hrpr.vs (z19, x) List.mem_cons_self
          simp only at kx f8 hx70
          unfold stCs at kx
          have hn9 : n9 ≤ 70 := by rw [← f9.1]; exact hrpr.sl _ (List.mem_of_getElem? (hxk k hkL))
          have hn8 : n8 ≤ 70 := by rw [← f8.1]; exact hx70
          obtain ⟨sv, hsv⟩ : ∃ sv, decide (x = stOf (L.take k)) = sv := ⟨_, rfl⟩
          have HSVV := Lib.hid hsv
          clear hsv
          obtain ⟨fv, hfv⟩ : ∃ fv : Int, (if K < k then ((K : Nat) : Int) else -1) = fv := ⟨_, rfl⟩
          have HFV := Lib.hid hfv
          rw [hfv]
          clear hfv
          obtain ⟨sk, hsk⟩ : ∃ sk, stOf (L.take k) = sk := ⟨_, rfl⟩
          rw [hsk] at p0 p1 p2 f9
          have hdec : decide (x = sk) = sv := by rw [← hsk]; exact HSVV.out
          clear hsk
          go_upto_region 35 with (fail)
          refine wp_region_inv (by kernel_rfl) [.val (.agg #[.int .i64 x.floor, .int .i64 x.term, .int .i64 x.vote, .slice A8 n8 c8]), .val (.slice (some ⟨b9, off9, none⟩) ns cs), .val (.int .i64 (k : Nat)), .val (.pointer (some ⟨b9, off9 + k * 4, none⟩)), .val (.agg #[.int .i64 sk.floor, .int .i64 sk.term, .int .i64 sk.vote, .slice A9 n9 c9]), .val (.bool sv), .val (.bool sv)] (T := ?T35) (by kernel_rfl) (by kernel_rfl) ?hT35 ?hask35 ?hend35
          case hT35 =>
            intro vs
            simp only [fill, Act.put, List.setIfInBounds_toArray, List.set_cons_succ, List.set_cons_zero, Nat.reduceAdd]
            exact rfl
          case hask35 =>
            refine askI_cons (fun vs w1 hb hd => ?_) ?_
            · have hk1 := kx.below hb kx.lt
              have y0 := hk1.cell 0
              have y1 := hk1.cell 1
              have y2 := hk1.cell 2
              have y3 := hk1.cell 3
              simp only [List.getElem?_toArray, List.getElem?_cons_zero, List.getElem?_cons_succ] at y0 y1 y2 y3
              have hl9 := hk1.lt
              simp only [DepI, Region.binds, SlI, List.getD_cons_zero, List.getD_cons_succ, Sl.val, and_true] at hd
              go_simp
              exact gives_pure rfl
            iterate 3 (refine askI_cons (fun vs w1 hb hd => ?_) ?_; (focus (simp only [DepI, Region.binds, SlI, List.getD_cons_zero, List.getD_cons_succ, Sl.val, and_true] at hd; go_simp; exact gives_pure rfl)))
            refine askI_cons (fun vs w1 hb hd => ?_) ?_
            · have d0 := (World.cell?_of_block (a := ⟨b9, off9 + k * 4, none⟩) (hb.block b9 hb9)).trans p0
              have d1 := (World.cell?_of_block (a := ⟨b9, off9 + k * 4 + 1, none⟩) (hb.block b9 hb9)).trans p1
              have d2 := (World.cell?_of_block (a := ⟨b9, off9 + k * 4 + 2, none⟩) (hb.block b9 hb9)).trans p2
              have d3 := (World.cell?_of_block (a := ⟨b9, off9 + k * 4 + 3, none⟩) (hb.block b9 hb9)).trans p3
              have hbl1 : b9 < w1.heap.size := Nat.lt_of_lt_of_le hb9 hb.size
              simp only [DepI, Region.binds, SlI, List.getD_cons_zero, List.getD_cons_succ, Sl.val, and_true] at hd
              go_simp
              exact gives_pure rfl
            refine askI_cons (fun vs w1 hb hd => ?_) ?_
            · simp only [DepI, Region.binds, SlI, List.getD_cons_zero, List.getD_cons_succ, Sl.val, and_true] at hd
              go_simp
              refine gives_enter ((same_any _ _ x sk A8 A9 n8 c8 n9 c9 _ (by omega) (by omega) (f8.step hb) (f9.step hb)).mono ?_)
              rintro e w2' ⟨rfl, f2⟩
              rw [hdec]
              exact ⟨_, rfl, f2, rfl⟩
            refine askI_cons (fun vs w1 hb hd => ?_) ?_; (focus (simp only [DepI, Region.binds, SlI, List.getD_cons_zero, List.getD_cons_succ, Sl.val, and_true] at hd; go_simp; exact gives_pure rfl))
            exact askI_nil
          case hend35 =>
            intro vs w1 hb hd
            simp only [AllI, SlI, List.getD_cons_zero, List.getD_cons_succ, Sl.val, and_true, Nat.reduceAdd] at hd
            have hlast := hd.2.2.2.2.2.2
            clear hd
            rw [hlast]
            have hbl2 := hbl.trans (hb.mono hbl.size)
            have hrpr2 := hrpr.step hb
            have hRk : Rc w1 (fun b' => b' < w1.heap.size) Aa (L.take k) := (hrpr2.al.rc (F' := fun b' => b' < w1.heap.size) (fun b' _ h => h) (fun b' _ h => h)).take k
            have hcaA := hrpr2.al.cap
            have hkna : k ≤ na := by have := HNA.out; omega
            have hkl1 := Lib.hid (show (L.take k).length = k by rw [List.length_take]; omega)
            have hxr := Lib.hid (show ∀ r ∈ L.take k, r.x.length ≤ 1000000 from fun r hr => by
              have h1 := (hG.take k).1
              rw [List.all_eq_true] at h1
              have := (rOk_bd (h1 r hr)).2.2.2.2.1
              omega)
            have hk0 : (0 : Int) ≤ (k : Int) := by omega
            have hkc : (k : Int) ≤ (ca : Int) := by omega
            have hkt : ((k : Int)).toNat = k := Int.toNat_natCast k
            have hk200 : k ≤ 200 := by omega
            have hsw1 := hbl2
            clear hlast hrpr hrpr2 p0 p1 p2 p3 f9 kx f8 hb hbl hcaA
            by_cases hkK : k = K
            · have hsvt : sv = true := by rw [← HSVV.out, decide_eq_true_eq, ← HX.out, hkK]
              subst hsvt
              have hzz := Lib.hid (show szR (L.take k) = nz by rw [hkK]; exact HNZ.out)
              have hfin := Lib.hid (show (if K < k + 1 then ((K : Nat) : Int) else -1) = (k : Int) by rw [if_pos (by omega), hkK])
              clear hkK
              go_wp2_with fail
              refine (size15_any (fun b' => b' < w1.heap.size) (L.take k) Aa k ca w1 hkl1.out (by omega) hRk hxr.out).mono ?_
              rintro e w2' ⟨rfl, b2⟩
              rw [hzz.out]
              go_wp2_with fail
              go_roundw
              case rel => exact ⟨k + 1, by rw [hfin.out], by go_num, by omega, hbl2.trans (b2.mono hbl2.size)⟩
              case measure => simp [intOf]; omega
            · have hfin := Lib.hid (show (if K < k + 1 then ((K : Nat) : Int) else -1) = fv by
                rw [← HFV.out]
                by_cases h : K < k
                · rw [if_pos h, if_pos (by omega)]
                · rw [if_neg h, if_neg (by omega)])
              have hzz : ¬ szR (L.take k) = nz := fun e => by
                rw [← HNZ.out] at e
                have h1 := HK.out.le
                rcases Nat.lt_or_gt_of_ne hkK with h | h
                · have := szR_lt L k K h h1; omega
                · have := szR_lt L K k h hkL; omega
              cases sv
              · clear hzz
                go_wp2_with fail
                go_roundw
                case rel => exact ⟨k + 1, by rw [hfin.out], by go_num, by omega, hbl2⟩
                case measure => simp [intOf]; omega
              · obtain ⟨zz, hzv⟩ : ∃ zz, szR (L.take k) = zz := ⟨_, rfl⟩
                rw [hzv] at hzz
                have HZV := Lib.hid hzv
                have hzi : ((zz : Int) == (nz : Int)) = false := by rw [beq_eq_false_iff_ne]; omega
                clear hzv hzz hkK
                go_wp2_with fail
                refine (size15_any (fun b' => b' < w1.heap.size) (L.take k) Aa k ca w1 hkl1.out (by omega) hRk hxr.out).mono ?_
                rintro e w2' ⟨rfl, b2⟩
                rw [HZV.out]
                go_wp2_with fail
                go_roundw
                case rel => exact ⟨k + 1, by rw [hfin.out], by go_num, by omega, hbl2.trans (b2.mono hbl2.size)⟩
                case measure => simp [intOf]; omega
        · obtain rfl : k = ns := by omega
          have hKs : K < k := by have := HK.out.le; have := HNS.out; omega
          rw [if_pos hKs]
          go_wp2_with fail
          go_meet
          exact ⟨rfl, hbl⟩
    case rest =>
      obtain ⟨rfl, hbl⟩ := hcut
      have hrp8 := hrp7.step hbl
      have hbs8 := hbs7.step hbl
      clear hrp7 hbs7 hbl
      have hat := at_.toNat_lt
      obtain ⟨mc, hmc⟩ : ∃ mc : Nat, mc = at_.toNat % (n5 + 1) := ⟨_, rfl⟩
      have hmc5 : mc ≤ n5 := by rw [hmc]; exact Nat.le_of_lt_succ (Nat.mod_lt _ (by omega))
      have hw1 : IntKind.i64.wrap ((n5 : Int) + 1) = (n5 : Int) + 1 := IntWalk.i64_in _ (by omega)
      have hw2 : ((at_.toNat : Nat) : Int) % ((n5 : Int) + 1) = (mc : Int) := by rw [hmc, Int.natCast_emod, Int.natCast_add]; rfl
      have hw3 : Int.tmod ((at_.toNat : Nat) : Int) ((n5 : Int) + 1) = (mc : Int) := by rw [hmc]; exact Int.ofNat_tmod _ _
      have HMC := Lib.hid hmc
      have hmc0 : (0 : Int) ≤ (mc : Int) := by omega
      have hmcc : (mc : Int) ≤ (c5 : Int) := by have := hc5.1; omega
      clear hmc
      go_upto_region 39 with (fail)
      have hbt := hbs8.take mc
      have hbl5 := Lib.hid (show (bb.take mc).length = mc by rw [List.length_take, HN5.out]; omega)
      obtain ⟨K2, hK2⟩ := whole_of hG (min mc j)
      rw [← List.take_take, HBB.out] at hK2
      clear hw1 hw2 hw3 hat hmc0 hmcc
      go_wp2_with fail
      refine (replay_any A5 (bb.take mc) mc c5 wc hbl5.out (by have := hc5.1; omega) hc5.2 (by omega) hbt).mono ?_
      rintro e w9 ⟨A9, n9, c9, rfl, s9, hl9, b9⟩
      rw [hK2.rep] at s9 hl9 ⊢
      simp only at s9 hl9 ⊢
      obtain ⟨y, hy⟩ : ∃ y, stOf (L.take K2) = y := ⟨_, rfl⟩
      obtain ⟨nm, hnm⟩ : ∃ nm, szR (L.take K2) = nm := ⟨_, rfl⟩
      rw [hy] at s9 hl9 ⊢
      rw [hnm]
      have hsz2 := hK2.sz
      rw [hnm, hbl5.out] at hsz2
      have HX2 := Lib.hid hy
      have HNZ2 := Lib.hid hnm
      have HKK := Lib.hid (HK.out.mono hK2 (by rw [hbl5.out, HN5.out]; exact hmc5))
      have HK2 := Lib.hid hK2
      have hrp9 := hrp8.step b9
      have hrp10' := (hrp9.new (s9.mono fun b' h hlt => hrp8.fresh b9.size b' hlt (.inr h)) hl9)
      have hrp10 := hrp10'.sub (V' := [(w9.heap.size, y)]) (fun v hv => by rw [List.mem_singleton.1 hv]; exact List.mem_cons_self) (by simp) (X' := []) (fun x hx => by cases hx)
      clear hy hnm hK2 hrp8 hrp9 hrp10' hbs8 hbt s9 b9
      unfold stCs at hrp10
      go_upto_region 41 with (fail)
      generalize w9.alloc (.cells #[.int .i64 y.floor, .int .i64 y.term, .int .i64 y.vote, .slice A9 n9 c9] TSt) = w10 at *
      generalize w9.heap.size = z25 at *
      have hxk : ∀ k, k ≤ L.length → (stS L)[k]? = some (stOf (L.take k)) := fun k h => stS_at L k h
      go_upto_block 6 with fail
      go_cut [27] from 27 to 228 (fun v wx => v = .int .i64 (K2 : Nat) ∧ Below w10.heap.size w10 wx)
      case first =>
        go_wp2_with fail
        go_loopw [27, 28] (fun f i wr => ∃ k : Nat, f = .int .i64 (if K2 < k then ((K2 : Nat) : Int) else -1) ∧ i = .int .i64 k ∧ k ≤ ns ∧ Below w10.heap.size w10 wr) (fun _ i _ => ns - (intOf i).toNat)
        case atStart => exact ⟨0, by rw [if_neg (Nat.not_lt_zero _)], rfl, by omega, Below.refl _ _⟩
        case round =>
          obtain ⟨k, rfl, rfl, hk, hbl⟩ := hrel
          by_cases hlt : k < ns
          · have hkL : k ≤ L.length := by have := HNS.out; omega
            have hrpr := hrp10.step hbl
            obtain ⟨b9, off9, A9, n9, c9, hAs, hb9, p0, p1, p2, p3, f9⟩ := hrpr.st.at_ (hxk k hkL)
            subst hAs
            obtain ⟨_, hx70, A8, n8, c8, kx, f8⟩ := hrpr.vs (z25, y) List.mem_cons_self
            simp only at kx f8 hx70
            unfold stCs at kx
            have hn9 : n9 ≤ 70 := by rw [← f9.1]; exact hrpr.sl _ (List.mem_of_getElem? (hxk k hkL))
            have hn8 : n8 ≤ 70 := by rw [← f8.1]; exact hx70
            obtain ⟨sv, hsv⟩ : ∃ sv, decide (y = stOf (L.take k)) = sv := ⟨_, rfl⟩
            have HSVV := Lib.hid hsv
            clear hsv
            obtain ⟨fv, hfv⟩ : ∃ fv : Int, (if K2 < k then ((K2 : Nat) : Int) else -1) = fv := ⟨_, rfl⟩
            have HFV := Lib.hid hfv
            rw [hfv]
            clear hfv
            obtain ⟨sk, hsk⟩ : ∃ sk, stOf (L.take k) = sk := ⟨_, rfl⟩
            rw [hsk] at p0 p1 p2 f9
            have hdec : decide (y = sk) = sv := by rw [← hsk]; exact HSVV.out
            clear hsk
            go_upto_region 44 with (fail)
            refine wp_region_inv (by kernel_rfl) [.val (.agg #[.int .i64 y.floor, .int .i64 y.term, .int .i64 y.vote, .slice A8 n8 c8]), .val (.slice (some ⟨b9, off9, none⟩) ns cs), .val (.int .i64 (k : Nat)), .val (.pointer (some ⟨b9, off9 + k * 4, none⟩)), .val (.agg #[.int .i64 sk.floor, .int .i64 sk.term, .int .i64 sk.vote, .slice A9 n9 c9]), .val (.bool sv), .val (.bool sv)] (T := ?T44) (by kernel_rfl) (by kernel_rfl) ?hT44 ?hask44 ?hend44
            case hT44 =>
              intro vs
              simp only [fill, Act.put, List.setIfInBounds_toArray, List.set_cons_succ, List.set_cons_zero, Nat.reduceAdd]
              exact rfl
            case hask44 =>
              refine askI_cons (fun vs w1 hb hd => ?_) ?_
              · have hk1 := kx.below hb kx.lt
                have y0 := hk1.cell 0
                have y1 := hk1.cell 1
                have y2 := hk1.cell 2
                have y3 := hk1.cell 3
                simp only [List.getElem?_toArray, List.getElem?_cons_zero, List.getElem?_cons_succ] at y0 y1 y2 y3
                have hl9 := hk1.lt
                simp only [DepI, Region.binds, SlI, List.getD_cons_zero, List.getD_cons_succ, Sl.val, and_true] at hd
                go_simp
                exact gives_pure rfl
              iterate 3 (refine askI_cons (fun vs w1 hb hd => ?_) ?_; (focus (simp only [DepI, Region.binds, SlI, List.getD_cons_zero, List.getD_cons_succ, Sl.val, and_true] at hd; go_simp; exact gives_pure rfl)))
              refine askI_cons (fun vs w1 hb hd => ?_) ?_
              · have d0 := (World.cell?_of_block (a := ⟨b9, off9 + k * 4, none⟩) (hb.block b9 hb9)).trans p0
                have d1 := (World.cell?_of_block (a := ⟨b9, off9 + k * 4 + 1, none⟩) (hb.block b9 hb9)).trans p1
                have d2 := (World.cell?_of_block (a := ⟨b9, off9 + k * 4 + 2, none⟩) (hb.block b9 hb9)).trans p2
                have d3 := (World.cell?_of_block (a := ⟨b9, off9 + k * 4 + 3, none⟩) (hb.block b9 hb9)).trans p3
                have hbl1 : b9 < w1.heap.size := Nat.lt_of_lt_of_le hb9 hb.size
                simp only [DepI, Region.binds, SlI, List.getD_cons_zero, List.getD_cons_succ, Sl.val, and_true] at hd
                go_simp
                exact gives_pure rfl
              refine askI_cons (fun vs w1 hb hd => ?_) ?_
              · simp only [DepI, Region.binds, SlI, List.getD_cons_zero, List.getD_cons_succ, Sl.val, and_true] at hd
                go_simp
                refine gives_enter ((same_any _ _ y sk A8 A9 n8 c8 n9 c9 _ (by omega) (by omega) (f8.step hb) (f9.step hb)).mono ?_)
                rintro e w2' ⟨rfl, f2⟩
                rw [hdec]
                exact ⟨_, rfl, f2, rfl⟩
              refine askI_cons (fun vs w1 hb hd => ?_) ?_; (focus (simp only [DepI, Region.binds, SlI, List.getD_cons_zero, List.getD_cons_succ, Sl.val, and_true] at hd; go_simp; exact gives_pure rfl))
              exact askI_nil
            case hend44 =>
              intro vs w1 hb hd
              simp only [AllI, SlI, List.getD_cons_zero, List.getD_cons_succ, Sl.val, and_true, Nat.reduceAdd] at hd
              have hlast := hd.2.2.2.2.2.2
              clear hd
              rw [hlast]
              have hbl2 := hbl.trans (hb.mono hbl.size)
              have hrpr2 := hrpr.step hb
              have hRk : Rc w1 (fun b' => b' < w1.heap.size) Aa (L.take k) := (hrpr2.al.rc (F' := fun b' => b' < w1.heap.size) (fun b' _ h => h) (fun b' _ h => h)).take k
              have hcaA := hrpr2.al.cap
              have hkna : k ≤ na := by have := HNA.out; omega
              have hkl1 := Lib.hid (show (L.take k).length = k by rw [List.length_take]; omega)
              have hxr := Lib.hid (show ∀ r ∈ L.take k, r.x.length ≤ 1000000 from fun r hr => by
                have h1 := (hG.take k).1
                rw [List.all_eq_true] at h1
                have := (rOk_bd (h1 r hr)).2.2.2.2.1
                omega)
              have hk0 : (0 : Int) ≤ (k : Int) := by omega
              have hkc : (k : Int) ≤ (ca : Int) := by omega
              have hkt : ((k : Int)).toNat = k := Int.toNat_natCast k
              have hk200 : k ≤ 200 := by omega
              have hsw1 := hbl2
              clear hlast hrpr hrpr2 p0 p1 p2 p3 f9 kx f8 hb hbl hcaA
              by_cases hkK : k = K2
              · have hsvt : sv = true := by rw [← HSVV.out, decide_eq_true_eq, ← HX2.out, hkK]
                subst hsvt
                have hzz := Lib.hid (show szR (L.take k) = nm by rw [hkK]; exact HNZ2.out)
                have hfin := Lib.hid (show (if K2 < k + 1 then ((K2 : Nat) : Int) else -1) = (k : Int) by rw [if_pos (by omega), hkK])
                clear hkK
                go_wp2_with fail
                refine (size15_any (fun b' => b' < w1.heap.size) (L.take k) Aa k ca w1 hkl1.out (by omega) hRk hxr.out).mono ?_
                rintro e w2' ⟨rfl, b2⟩
                rw [hzz.out]
                go_wp2_with fail
                go_roundw
                case rel => exact ⟨k + 1, by rw [hfin.out], by go_num, by omega, hbl2.trans (b2.mono hbl2.size)⟩
                case measure => simp [intOf]; omega
              · have hfin := Lib.hid (show (if K2 < k + 1 then ((K2 : Nat) : Int) else -1) = fv by
                  rw [← HFV.out]
                  by_cases h : K2 < k
                  · rw [if_pos h, if_pos (by omega)]
                  · rw [if_neg h, if_neg (by omega)])
                have hzz : ¬ szR (L.take k) = nm := fun e => by
                  rw [← HNZ2.out] at e
                  have h1 := HK2.out.le
                  rcases Nat.lt_or_gt_of_ne hkK with h | h
                  · have := szR_lt L k K2 h h1; omega
                  · have := szR_lt L K2 k h hkL; omega
                cases sv
                · clear hzz
                  go_wp2_with fail
                  go_roundw
                  case rel => exact ⟨k + 1, by rw [hfin.out], by go_num, by omega, hbl2⟩
                  case measure => simp [intOf]; omega
                · obtain ⟨zz, hzv⟩ : ∃ zz, szR (L.take k) = zz := ⟨_, rfl⟩
                  rw [hzv] at hzz
                  have HZV := Lib.hid hzv
                  have hzi : ((zz : Int) == (nm : Int)) = false := by rw [beq_eq_false_iff_ne]; omega
                  clear hzv hzz hkK
                  go_wp2_with fail
                  refine (size15_any (fun b' => b' < w1.heap.size) (L.take k) Aa k ca w1 hkl1.out (by omega) hRk hxr.out).mono ?_
                  rintro e w2' ⟨rfl, b2⟩
                  rw [HZV.out]
                  go_wp2_with fail
                  go_roundw
                  case rel => exact ⟨k + 1, by rw [hfin.out], by go_num, by omega, hbl2.trans (b2.mono hbl2.size)⟩
                  case measure => simp [intOf]; omega
          · obtain rfl : k = ns := by omega
            have hKs : K2 < k := by have := HK2.out.le; have := HNS.out; omega
            rw [if_pos hKs]
            go_wp2_with fail
            go_meet
            exact ⟨rfl, hbl⟩
      case rest =>
        obtain ⟨rfl, hbl⟩ := hcut
        have hrp11 := hrp10.step hbl
        clear hrp10 hbl
        have hbw := hrp11.bl
        have hRk := hrp11.al.rc (F' := fun b' => b' < wc.heap.size) (fun b' _ h => h) (fun b' _ h => h)
        have hcaA := hrp11.al.cap
        have hKL := HK.out.le
        have hKna : K ≤ na := by have := HNA.out; omega
        have hxr := Lib.hid (show ∀ (k : Nat), ∀ r ∈ L.take k, r.x.length ≤ 1000000 from fun k r hr => by
          have h1 := (hG.take k).1
          rw [List.all_eq_true] at h1
          have := (rOk_bd (h1 r hr)).2.2.2.2.1
          omega)
        have hKK : K2 ≤ K := HKK.out
        have g1 : (0 : Int) ≤ (K : Int) := by omega
        have g2 : (0 : Int) ≤ (K2 : Int) := by omega
        have g3 : (K2 : Int) ≤ (K : Int) := by omega
        have g4 : (K : Int) ≤ (ca : Int) := by omega
        have g5 : ((K : Int)).toNat = K := Int.toNat_natCast K
        have hKl := Lib.hid (show (L.take K).length = K by rw [List.length_take]; omega)
        clear hrp11
        go_wp2_with fail
        refine (size15_any (fun b' => b' < wc.heap.size) (L.take K) Aa K ca wc hKl.out (by omega) (hRk.take K) (hxr.out K)).mono ?_
        rintro e w11 ⟨rfl, b11⟩
        rw [HNZ.out]
        have hbw2 := hbw.trans (b11.mono hbw.size)
        by_cases hKn : K = na
        · have q1 : ((K : Int) == (na : Int)) = true := by rw [hKn]; simp
          clear hKn
          go_wp2_with fail
          go_ret
          exact ⟨by simp, hbw2⟩
        · have hKlt : K + 1 ≤ na := by omega
          have hbig : n5 < szR (L.take (K + 1)) := by
            rcases HK.out.fin with h | h
            · have := HNA.out; omega
            · rw [HN5.out] at h; exact h
          obtain ⟨zb, hzb⟩ : ∃ zb, szR (L.take (K + 1)) = zb := ⟨_, rfl⟩
          rw [hzb] at hbig
          have HZB := Lib.hid hzb
          have q1 : ((K : Int) == (na : Int)) = false := by rw [beq_eq_false_iff_ne]; omega
          have hw1 : IntKind.i64.wrap ((K : Int) + 1) = (K : Int) + 1 := IntWalk.i64_in _ (by omega)
          have hw2 : ((K : Int) + 1).toNat = K + 1 := by omega
          have hw3 : (0 : Int) ≤ (K : Int) + 1 := by omega
          have hw4 : (K : Int) + 1 ≤ (ca : Int) := by omega
          have hKl2 := Lib.hid (show (L.take (K + 1)).length = K + 1 by rw [List.length_take]; have := HNA.out; omega)
          have hR2 := ((hRk.take (K + 1)).keep b11.size fun b' hf hlt => b11.block b' hlt)
          have hbg : (n5 : Int) < (zb : Int) := by omega
          clear hzb hKn
          go_wp2_with fail
          refine (size15_any (fun b' => b' < wc.heap.size) (L.take (K + 1)) Aa (K + 1) ca w11 hKl2.out (by omega) hR2 (hxr.out (K + 1))).mono ?_
          rintro e w12 ⟨rfl, b12⟩
          rw [HZB.out]
          go_wp2_with fail
          go_ret
          exact ⟨by simp, hbw2.trans (b12.mono hbw2.size)⟩

theorem storeReplays_walk (w : World) (A : Option Addr) (LL : List (List Rcd)) (n c : Nat) (hn : LL.length = n) (hnc : n ≤ c) (hcm : c ≤ maxLen) (hl : Rcc w w.heap.size A LL)
    (keep : Int) (hkeep : -9223372036854775808 ≤ keep ∧ keep ≤ 9223372036854775807) (at_ : Int) (hat : 0 ≤ at_ ∧ at_ ≤ 255) :
    Calls Try.prog 11 #[.slice A n c, .int .i64 keep, .int .u8 at_] w fun e w' => e = .returned (.bool true) ∧ Below w.heap.size w w' := by
  have h : at_ = ((UInt8.ofNat at_.toNat).toNat : Int) := by rw [UInt8.toNat_ofNat']; omega
  rw [h]
  exact storeReplays_walk8 w A LL n c hn hnc hcm hl keep hkeep _
end Go.Proofs.Ytcgkoojegopfnaa

namespace Go.Proofs.Ytcgkoojegopfnaa.storeReplays
open Go.ChangeShapes Go.WideShapes Go.ChangeAt Go.RowKit
open Go.ChangeMaps (open_string shut_string)
set_option linter.unusedVariables false

theorem own : ownKnob Try.prog.godebug = none := by kernel_rfl
theorem laidOut : laidOutB Try.prog = true := by kernel_rfl

set_option maxRecDepth 100000 in
theorem lifted (os : Os) (started : os.Started) (H : Type) (enc : TypeId × Value → H) :
    ReturnsInHanded {} Try.checked os 11 .any (Rows.storeReplaysSpec.pre6 enc Try.prog Try.f11 Rows.storeReplaysRow.domain false) (Rows.storeReplaysSpec.post enc Try.prog Try.f11 false true false false) := by
  refine returnsInHanded_of_change (C := Try.checked) own started (by kernel_rfl) Try.func11
    (ChangeSpec.witness6 (enc := enc) (C := Try.checked) false ⟨#[], #[.slice none 0 0, .int .i64 0, .int .u8 0], []⟩ 8 (by kernel_rfl) (by kernel_rfl) (by kernel_rfl) (by kernel_rfl)) ?_
  intro W base args ds gs before hval0 hW hcnd _
  have hval : ∀ (j : Nat) t v, Try.f11.params[j]? = some t → args[j]? = some v → Value.okWide Try.prog W .any base t v := hval0
  have hW' := hW
  obtain ⟨p, q, hA0, hV, rfl, hfz, hnd⟩ := hW
  have hA : DataW.TrodAll enc Try.prog W 0 (fun _ => true) true Try.f11.params.toList args.toList ds p := hA0
  rw [Try.params11] at hA hval
  obtain ⟨v0, vs0, d0, ds0, p0, q0, hargs, rfl, rfl, h0, r0⟩ := trodAll_cons hA
  obtain ⟨v1, vs1, d1, ds1, p1, q1, rfl, rfl, rfl, h1, r1⟩ := trodAll_cons r0
  obtain ⟨v2, vs2, d2, ds2, p2, q2, rfl, rfl, rfl, h2, r2⟩ := trodAll_cons r1
  obtain ⟨rfl, rfl, rfl⟩ := trodAll_nil r2
  obtain rfl : args = #[v0, v1, v2] := by cases args; simp_all
  obtain ⟨rfl, rfl⟩ := trodVars_none hV
  obtain ⟨a0, len0, cap0, rfl⟩ := okWide_slice Try.underlying66 (hval 0 66 v0 rfl rfl)
  have k0 := h0
  have lt0 : ∀ x ∈ p0, x.block < W.heap.size := by obtain ⟨m, hm⟩ := k0; exact DataW.trod_lt m _ _ _ hm
  obtain ⟨l0, hl0, hlc0, hm0, w0⟩ := open_rcss Try.underlying66 (by kernel_rfl) Try.underlying62 Try.underlying50 (by kernel_rfl) (by kernel_rfl) rfl rfl rfl rfl Try.underlying3 Try.underlying22 Try.underlying5 (by kernel_rfl) h0
  obtain ⟨a1, rfl, rfl, rfl, w1⟩ := open_int Try.underlying3 (hval 1 3 v1 rfl rfl) h1
  obtain ⟨a2, rfl, rfl, rfl, w2⟩ := open_int Try.underlying5 (hval 2 5 v2 rfl rfl) h2
  clear hA0 hval0
  refine (storeReplays_walk W a0 l0 len0 cap0 hl0 hlc0 hm0 w0 a1 (bounds_i64 w1) a2 (bounds_u8 w2)).mono fun e W' ⟨he, bel⟩ => ?_
  subst he
  exact ⟨_, rfl, _, _, _, [], _, [], hW', trodAll_mk1 (shut_bool Try.underlying4 _), (trodAll_cons_mk (Below.trod laidOut (by kernel_rfl) (of_decide_eq_true (by kernel_rfl)) k0 bel lt0) (trodAll_cons_mk (shut_int Try.underlying3 w1) (trodAll_cons_mk (shut_int Try.underlying5 w2) trodAll_mk0))), rfl, bel.frame _, fun h => by cases h⟩

theorem over : Rows.storeReplaysRow.holds Try.pinned (OpenSpec.ofChange Rows.storeReplaysSpec) :=
  OpenClaim.holds_of_wide 11 Try.f11 rfl rfl rfl rfl rfl rfl rfl ⟨rfl, rfl, rfl, rfl, rfl⟩ rfl rfl rfl rfl rfl (by kernel_rfl) Try.func11 (by kernel_rfl)
    (of_decide_eq_true (by kernel_rfl)) (by unfold Func.isWrapper; first | (rw [if_pos (by decide +kernel)]; kernel_rfl) | (rw [if_neg (by decide +kernel)]; exact ⟨rfl, rfl⟩))
    (fun os started H enc _ => lifted os started H enc)

theorem proved : Rows.StoreReplaysSaid := over
end Go.Proofs.Ytcgkoojegopfnaa.storeReplays
