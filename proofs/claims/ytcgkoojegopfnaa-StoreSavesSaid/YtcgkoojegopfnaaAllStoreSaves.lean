/- The law StoreSaves of coraclelaw15: for every input the call returns true, and each argument reads afterwards as it read before. Behind: The walk of the document's Save (chapter 15). Facts for the law StoreSaves: two disks and two states, the program's and the document's, that are alike. How an argument that is a node's state is opened. How an argument that is a slice of records, or of slices of records, is opened. The walk of the law StoreSaves. -/
import Derived.Test.YtcgkoojegopfnaaRStep
import Derived.Test.YtcgkoojegopfnaaRDiskB
import Derived.Test.YtcgkoojegopfnaaSplitA
import Derived.Test.YtcgkoojegopfnaaOpF
import Derived.Test.YtcgkoojegopfnaaStoS
import Derived.Lib.SmallJoins
import Derived.Test.YtcgkoojegopfnaaRcs
import Derived.Test.YtcgkoojegopfnaaRecords
import Derived.Test.YtcgkoojegopfnaaStoSame
import Derived.Deep.DeepCutAuto
import Derived.Test.YtcgkoojegopfnaaRows
namespace Go.Proofs.Ytcgkoojegopfnaa
open Go.RowKit
set_option linter.unusedSimpArgs false
set_option linter.unusedVariables false

theorem Rk.setNew {w : World} {base g g2 : Nat} {q : Option Nat} {d : Dsk} (h : Rk w base g q d) (h1 : g ≠ g2) (h2 : q ≠ some g2) (i : Nat) (u : Value) : Rk (w.setCell ⟨g2, i, none⟩ u) base g q d :=
  h.kept ((Touch.refl w g2 none).set i u) h1 (by simp) h2 (fun k _ => by simp)
/-- What the document's Save does. -/
def RSaveR (w : World) (base g : Nat) (q : Option Nat) (F : Nat → Prop) (p : Stb × Int × Dsk) (e : Ending) (w' : World) : Prop :=
  ∃ A n c q', e = .returned (.tuple #[stV p.1 A n c, .int .i64 p.2.1]) ∧ StF w' (fun b => (F b ∨ w.heap.size ≤ b) ∧ some b ≠ q') p.1 A n c ∧ Rk w' base g q' p.2.2 ∧ Touch w w' g q ∧ Moved w q q'
/-- An exit: a state is told. -/
theorem rsave_exit {w wr : World} {base g z n c : Nat} {q q0 : Option Nat} {d : Dsk} {F FX : Nat → Prop} {s t : Stb} {A : Option Addr} {v : Int} {D : Dsk} {L : List Rcd} (hsv : sSave D s L = (t, v, d)) (hX : ∀ b, FX b → b < wr.heap.size → b ≠ z ∧ (F b ∨ w.heap.size ≤ b) ∧ some b ≠ q) (hg : g < w.heap.size) (hm : Moved w q0 q)
    (hs : StF wr FX t A n c) (hd : Rk wr base g q d) (ht : Touch w wr g q0) (hz : w.heap.size ≤ z) (hqz : q ≠ some z) :
    RSaveR w base g q0 F (sSave D s L) (.returned (.tuple #[.agg #[.int .i64 t.floor, .int .i64 t.term, .int .i64 t.vote, .slice A n c], .int .i64 v])) ((((wr.setCell ⟨z, 0, none⟩ (.int .i64 t.floor)).setCell ⟨z, 1, none⟩ (.int .i64 t.term)).setCell ⟨z, 2, none⟩ (.int .i64 t.vote)).setCell ⟨z, 3, none⟩ (.slice A n c)) := by
  have hs' : StF wr (fun b => b ≠ z ∧ (F b ∨ w.heap.size ≤ b) ∧ some b ≠ q) t A n c := hs.mono hX
  have hn : ¬ (z ≠ z ∧ (F z ∨ w.heap.size ≤ z) ∧ some z ≠ q) := fun h => h.1 rfl
  have hgz : g ≠ z := by omega
  rw [hsv]
  exact ⟨A, n, c, q, rfl, ((((hs'.setN hn 0 _).setN hn 1 _).setN hn 2 _).setN hn 3 _).mono fun b h _ => h.2, (((hd.setNew hgz hqz 0 _).setNew hgz hqz 1 _).setNew hgz hqz 2 _).setNew hgz hqz 3 _, (((ht.setNew hz 0 _).setNew hz 1 _).setNew hz 2 _).setNew hz 3 _, hm⟩

/-- The state that a step told: its blocks are those of F, or made by the step (y: from, to). -/
def StepV (wr : World) (F : Nat → Prop) (t : Stb) (e : Int) (y : Gh) (v : Value) (w : World) : Prop :=
  ∃ A n c, v = .tuple #[stV t A n c, .int .i64 e] ∧ StF w (fun b => F b ∨ (wr.heap.size ≤ b ∧ y.1 ≤ b ∧ b < y.2)) t A n c
theorem StepV.step {wr : World} {F : Nat → Prop} {t : Stb} {e : Int} (y : Gh) (v : Value) (w w' : World) (hb : Below w.heap.size w w') (h : StepV wr F t e y v w) : StepV wr F t e y v w' := by
  obtain ⟨A, n, c, h1, h2⟩ := h
  exact ⟨A, n, c, h1, h2.step hb⟩
/-- A variable, that holds what a step told. -/
def StepK (wr : World) (F : Nat → Prop) (t : Stb) (u : Value) (w : World) : Prop :=
  ∃ k A n c, u = .pointer (some ⟨k, 0, none⟩) ∧ wr.heap.size ≤ k ∧ Blk w k TSt #[.int .i64 t.floor, .int .i64 t.term, .int .i64 t.vote, .slice A n c] ∧ StF w (fun b => F b ∨ wr.heap.size ≤ b) t A n c
theorem StepK.step {wr : World} {F : Nat → Prop} {t : Stb} (u v : Value) (w w' : World) (hb : Below w.heap.size w w') (h : StepK wr F t u w) : StepK wr F t u w' := by
  obtain ⟨k, A, n, c, h1, h2, h3, h4⟩ := h
  exact ⟨k, A, n, c, h1, h2, h3.below hb h3.lt, h4.step hb⟩

theorem saveB_take (L : List Rcd) (h : L.all rOk = true) : (saveB L).length ≤ L.length * 211 := saveB_len L h
theorem sStep_err (s : Stb) (r : Rcd) (hr : rOk r = true) (h : (sStep s r).2 ≠ 0) : (sStep s r).2 = 5 := by
  unfold sStep at h ⊢
  rw [if_pos hr] at h ⊢
  split at h
  · exact absurd rfl h
  · rename_i hn
    rw [if_neg hn]

set_option maxRecDepth 100000 in
set_option maxHeartbeats 3200000 in
theorem rsave_any (base g : Nat) (q : Option Nat) (d : Dsk) (F : Nat → Prop) (s : Stb) (A : Option Addr) (n c : Nat) (L : List Rcd) (R : Option Addr) (m cr : Nat) (w : World) (hF : ∀ b, F b → b < w.heap.size ∧ b ≠ g ∧ some b ≠ q) (hd : Rk w base g q d) (hbase : base ≤ w.heap.size)
    (hs : StF w F s A n c) (hn : n ≤ 70) (hL : L.length = m) (hm30 : m ≤ 30) (hmc : m ≤ cr) (hR : Rc w F R L) (hx : ∀ r ∈ L, r.x.length ≤ 1000000) :
    Calls Try.prog 37 #[.pointer (some ⟨g, 0, none⟩), .agg #[.int .i64 s.floor, .int .i64 s.term, .int .i64 s.vote, .slice A n c], .slice R m cr] w (RSaveR w base g q F (sSave d s L)) := by
  have HF := Lib.hid hF
  have HLM := Lib.hid hL
  have HLN := Lib.hid hs.1
  have HX := Lib.hid hx
  have hg := hd.g_lt
  have hql := hd.q_lt
  have b1 := (Below.refl w.heap.size w).alloc (Nat.le_refl _) (.cells #[.int .i64 s.floor, .int .i64 s.term, .int .i64 s.vote, .slice A n c] TSt)
  have b2 := b1.alloc b1.size (.cells #[.int .i64 0, .int .i64 0, .int .i64 0, .slice none 0 0] TSt)
  have b3 := b2.alloc b2.size (.cells #[] 5)
  have ks := ((Blk.new w TSt #[.int .i64 s.floor, .int .i64 s.term, .int .i64 s.vote, .slice A n c]).alloc (.cells #[.int .i64 0, .int .i64 0, .int .i64 0, .slice none 0 0] TSt)).alloc (.cells #[] 5)
  have kz := (Blk.new (w.alloc (.cells #[.int .i64 s.floor, .int .i64 s.term, .int .i64 s.vote, .slice A n c] TSt)) TSt #[.int .i64 0, .int .i64 0, .int .i64 0, .slice none 0 0]).alloc (.cells #[] 5)
  rw [World.size_alloc] at kz
  have he := Ob.empty (w := (w.alloc (.cells #[.int .i64 s.floor, .int .i64 s.term, .int .i64 s.vote, .slice A n c] TSt)).alloc (.cells #[.int .i64 0, .int .i64 0, .int .i64 0, .slice none 0 0] TSt)) (base := w.heap.size) (E := 5) b2.size
  rw [World.size_alloc, World.size_alloc] at he
  have HG := Lib.hid hg
  have HQ := Lib.hid hql
  clear hF hL hx b1 hg hql b2
  go_enter Try.func37, Try.ntmps37
  go_wp2_with fail
  go_loopw [8, 9] (fun l i wr => ∃ (k nb : Nat) (Al : Option Addr) (cl : Nat), l = .slice Al nb cl ∧ i = .int .i64 k ∧ k ≤ m ∧ nb ≤ k * 211 ∧ Own wr w.heap.size Al nb cl (saveB (L.take k)) ∧ (L.take k).all rOk = true ∧ Below w.heap.size w wr ∧ Blk wr w.heap.size TSt #[.int .i64 s.floor, .int .i64 s.term, .int .i64 s.vote, .slice A n c] ∧ Blk wr (w.heap.size + 1) TSt #[.int .i64 0, .int .i64 0, .int .i64 0, .slice none 0 0]) (fun _ i _ => m - (intOf i).toNat)
  case atStart => exact ⟨0, 0, _, _, rfl, rfl, by omega, by omega, by simpa [saveB] using he, by simp, b3, ks, kz⟩
  case round =>
    clear b3 ks kz he
    obtain ⟨k, nb, Al, cl, rfl, rfl, hk, hnb, hown, hall, hb, ks, kz⟩ := hrel
    by_cases hlt : k < m
    · have hx : L[k]? = some (L[k]'(by rw [HLM.out]; exact hlt)) := List.getElem?_eq_getElem _
      have hxm : L[k]'(by rw [HLM.out]; exact hlt) ∈ L := List.getElem_mem _
      have hAw : Rc wr F R L := hR.keep hb.size fun b hf hlt => hb.block b hlt
      obtain ⟨b, off, Ac, cc, rfl, hfb, hbl, c0, c1, c2, c3, hcc, hcm, hbs, g1, g2, g3⟩ := hAw.at_ hx
      have hg := Lib.hid (show L.take (k + 1) = L.take k ++ [L[k]'(by rw [HLM.out]; exact hlt)] by rw [List.take_succ_eq_append_getElem (by rw [HLM.out]; exact hlt)])
      have HXM := Lib.hid hxm
      clear hx hAw hxm
      generalize L[k]'(by rw [HLM.out]; exact hlt) = x at *
      obtain ⟨mx, hmx⟩ : ∃ mx, x.x.length = mx := ⟨_, rfl⟩
      rw [hmx] at c3 hcc
      have HMX := Lib.hid hmx
      have hmxb : mx ≤ 1000000 := by rw [← hmx]; exact HX.out x HXM.out
      clear hmx
      have hbs1 := hbs.bs
      go_wp2_with fail
      refine (rput15_any x Ac mx cc _ HMX.out hmxb hbs1 g2 g3).mono ?_
      rintro e w4 ⟨P, np, cp, rfl, oP, b4⟩
      have bw4 := hb.trans (b4.mono hb.size)
      have ks4 := ks.below b4 ks.lt
      have kz4 := kz.below b4 kz.lt
      have o4 := hown.step b4
      have hs4 := hs.step bw4
      have hd4 := hd.step bw4
      have ht4 := Touch.of_below (g := g) (q := q) bw4
      have hbz := bw4.size
      clear hbs1 hbs b4 ks kz hown hb c0 c1 c2 c3
      cases hro : rOk x
      · have hrp : rPut x = ([], 1) := by unfold rPut; rw [hro]; rfl
        have hsv : sSave d s L = (s, 1, d) := by
          unfold sSave
          rw [if_neg]
          intro h
          rw [List.all_eq_true] at h
          rw [h x HXM.out] at hro
          cases hro
        have HSV := Lib.hid hsv
        rw [hrp]
        clear hrp hro hsv oP o4 bw4
        have y0 := ks4.cell 0
        have y1 := ks4.cell 1
        have y2 := ks4.cell 2
        have y3 := ks4.cell 3
        have q0 := kz4.cell 0
        have q1 := kz4.cell 1
        have q2 := kz4.cell 2
        have q3 := kz4.cell 3
        have z0 := kz4.free 0
        have z1 := kz4.free 1
        have z2 := kz4.free 2
        have z3 := kz4.free 3
        simp only [List.getElem?_toArray, List.getElem?_cons_zero, List.getElem?_cons_succ] at y0 y1 y2 y3 q0 q1 q2 q3
        have hl1 := ks4.lt
        have hl2 := kz4.lt
        go_wp2_with fail
        exact bodyPost_ret (v := .tuple #[.agg #[.int .i64 s.floor, .int .i64 s.term, .int .i64 s.vote, .slice A n c], .int .i64 1]) (by simp [results, Try.results37, go_sem, q0, q1, q2, q3, hl2]) rfl (rsave_exit HSV.out (fun b h _ => ⟨by have := (HF.out b h).1; omega, .inl h, (HF.out b h).2.2⟩) HG.out (.inl rfl) hs4 hd4 ht4 (by omega) (fun h => by have := (HQ.out _ h).2.1; omega))
      · have hrp : rPut x = (rBytes x, 0) := by unfold rPut; rw [hro]; rfl
        obtain ⟨hf1, hf2⟩ := frB_ok hro
        have HRO := Lib.hid hro
        rw [hrp] at oP ⊢
        simp only at oP ⊢
        have hnp := oP.1
        have hr2 := rBytes_210 hro
        clear hrp hro
        go_wp2_with fail
        refine (frput_any P (rBytes x) np cp w4 hnp (by omega) oP.bs).mono ?_
        rintro e w5 ⟨A5, c5, rfl, o5, b5⟩
        rw [hf1] at o5 ⊢
        simp only at o5 ⊢
        have bw5 := bw4.trans (b5.mono bw4.size)
        have o6 := o4.step b5
        have ks5 := ks4.below b5 ks4.lt
        have kz5 := kz4.below b5 kz4.lt
        have hbz5 := bw5.size
        obtain ⟨nf, hnf⟩ : ∃ nf, (frB x).length = nf := ⟨_, rfl⟩
        have hf3 : nf ≤ 211 := by rw [← hnf]; exact hf2
        rw [hnf]
        have HNF := Lib.hid hnf
        have hbsF := o5.bs
        clear hnf hf1 hnp hr2 oP o4 ks4 kz4 b5 bw4 hs4 hd4 ht4 hbz hf2
        go_wp2_with (at_builtin; refine app rfl (.tmp 42) (.tmp 43) rfl rfl o6 rfl HNF.out hbsF (by omega) hbz5 ?_; intro A7 c7 w7 o7 g7 hA7)
        have b7 : Below w.heap.size w w7 := Own.grown o6 bw5 g7
        have ks7 := ks5.grown g7 (Own.rowT o6 ks5 (by decide))
        have kz7 := kz5.grown g7 (Own.rowT o6 kz5 (by decide))
        rw [← saveB_snoc, ← hg.out] at o7
        go_roundw
        case rel => exact ⟨k + 1, nb + nf, A7, c7, by rfl, by go_num, by omega, by omega, o7, by rw [hg.out, List.all_append]; simp [hall, HRO.out], b7, ks7, kz7⟩
        case measure => simp [intOf]; omega
    · obtain rfl : k = m := by omega
      have hLk : L.take k = L := List.take_of_length_le (by rw [HLM.out]; exact Nat.le_refl _)
      rw [hLk] at hown hall
      have y0 := ks.cell 0
      have y1 := ks.cell 1
      have y2 := ks.cell 2
      have y3 := ks.cell 3
      simp only [List.getElem?_toArray, List.getElem?_cons_zero, List.getElem?_cons_succ] at y0 y1 y2 y3
      have hl1 := ks.lt
      have hbz := hb.size
      have hsr := hs.step hb
      have b6 := (Below.refl wr.heap.size wr).alloc (Nat.le_refl _) (.cells #[.int .i64 s.floor, .int .i64 s.term, .int .i64 s.vote, .slice A n c] TSt)
      have kn := Blk.new wr TSt #[.int .i64 s.floor, .int .i64 s.term, .int .i64 s.vote, .slice A n c]
      have bw6 := hb.trans (b6.mono hb.size)
      have ks6 := ks.below b6 ks.lt
      have kz6 := kz.below b6 kz.lt
      have ob6 := hown.step b6
      have hs6 := hsr.step b6
      have h14 : w.heap.size + 1 < wr.heap.size := kz.lt
      have hcn := hs.2
      have hln0 := HLN.out
      clear hLk hsr ks kz hown hb b6
      go_wp2_with fail
      generalize wr.alloc (.cells #[.int .i64 s.floor, .int .i64 s.term, .int .i64 s.vote, .slice A n c] TSt) = w6 at *
      clear y0 y1 y2 y3 hl1 hbz
      have h14' : wr.heap.size < w6.heap.size := kn.lt
      generalize wr.heap.size = g14 at *
      go_loopw [15] (fun i wr => ∃ (j : Nat) (st : Stb) (At : Option Addr) (nt ct : Nat), i = .int .i64 j ∧ j ≤ k ∧ steps s (L.take j) = (st, 0) ∧ Blk wr g14 TSt #[.int .i64 st.floor, .int .i64 st.term, .int .i64 st.vote, .slice At nt ct] ∧ StF wr (fun b => (F b ∨ w.heap.size ≤ b) ∧ b ≠ w.heap.size + 1 ∧ b ≠ g14 ∧ b < wr.heap.size) st At nt ct ∧ nt ≤ 70 ∧ Own wr w.heap.size Al nb cl (saveB L) ∧ Below w.heap.size w wr ∧ Blk wr w.heap.size TSt #[.int .i64 s.floor, .int .i64 s.term, .int .i64 s.vote, .slice A n c] ∧ Blk wr (w.heap.size + 1) TSt #[.int .i64 0, .int .i64 0, .int .i64 0, .slice none 0 0]) (fun i _ => k - (intOf i).toNat)
      case atStart => exact ⟨0, s, A, n, c, rfl, by omega, rfl, kn, hs6.mono fun b h hlt => ⟨.inl h, by have := (HF.out b h).1; omega, by have := (HF.out b h).1; omega, hlt⟩, by omega, ob6, bw6, ks6, kz6⟩
      case round =>
        clear kn bw6 ks6 kz6 ob6 hs6 hcn h14'
        obtain ⟨j, st, At, nt, ct, rfl, hj, hsteps, kn, hst, hnt, hown, hb, ks, kz⟩ := hrel
        have hg14 := kn.lt
        have hbz := hb.size
        by_cases hlt : j < k
        · have hx : L[j]? = some (L[j]'(by rw [HLM.out]; exact hlt)) := List.getElem?_eq_getElem _
          have hxm : L[j]'(by rw [HLM.out]; exact hlt) ∈ L := List.getElem_mem _
          have hAw : Rc wr F R L := hR.keep hb.size fun b hf hlt => hb.block b hlt
          obtain ⟨b, off, Ac, cc, rfl, hfb, hbl, c0, c1, c2, c3, hcc, hcm, hbs, g1, g2, g3⟩ := hAw.at_ hx
          have hg := Lib.hid (show L.take (j + 1) = L.take j ++ [L[j]'(by rw [HLM.out]; exact hlt)] by rw [List.take_succ_eq_append_getElem (by rw [HLM.out]; exact hlt)])
          have hg' := Lib.hid (show L = L.take j ++ L[j]'(by rw [HLM.out]; exact hlt) :: L.drop (j + 1) by rw [List.getElem_cons_drop, List.take_append_drop])
          have HXM := Lib.hid hxm
          clear hx hAw hxm
          generalize L[j]'(by rw [HLM.out]; exact hlt) = x at *
          obtain ⟨mx, hmx⟩ : ∃ mx, x.x.length = mx := ⟨_, rfl⟩
          rw [hmx] at c3 hcc
          have HMX := Lib.hid hmx
          have hmxb : mx ≤ 1000000 := by rw [← hmx]; exact HX.out x HXM.out
          clear hmx
          have HS := Lib.hid hsteps
          clear hsteps
          have hbs1 := hbs.bs
          have hln := sStep_len st x (by rw [hst.1]; exact hnt)
          obtain ⟨st8, e8, hss⟩ : ∃ a b, sStep st x = (a, b) := ⟨_, _, rfl⟩
          have HSS := Lib.hid hss
          rw [hss] at hln
          simp only at hln
          obtain ⟨FQ, hFQ⟩ : ∃ FQ : Nat → Prop, FQ = fun b => (F b ∨ w.heap.size ≤ b) ∧ b ≠ w.heap.size + 1 ∧ b ≠ g14 ∧ b < wr.heap.size := ⟨_, rfl⟩
          rw [← hFQ] at hst
          have HFQ := Lib.hid (show ∀ b, FQ b → (F b ∨ w.heap.size ≤ b) ∧ b ≠ w.heap.size + 1 ∧ b ≠ g14 ∧ b < wr.heap.size by rw [hFQ]; exact fun _ h => h)
          have hbw := hb
          have hjr : (j : Int) < (k : Int) := by omega
          clear hFQ hss
          go_upto_region 14 with (fail)
          have hst' := hst
          refine wp_region_invG (R := (fun s _ y a b => Below wr.heap.size a b ∧ (s = 0 → y = (a.heap.size, b.heap.size) ∧ Below a.heap.size a b))) (B := wr.heap.size) (by kernel_rfl) ?hB14 ?hRB14 [.valAt 0 0 (.agg #[.int .i64 st.floor, .int .i64 st.term, .int .i64 st.vote, .slice At nt ct]), .val (.slice (some ⟨b, off, none⟩) k cr), .val (.int .i64 (j : Nat)), .val (.pointer (some ⟨b, off + j * 4, none⟩)), .valAt 0 0 (.agg #[.int .i64 x.kind, .int .i64 x.a, .int .i64 x.b, .slice Ac mx cc]), .fxG 0 (StepV wr FQ st8 e8) (StepV.step), .same 1 5 (fun v => ∃ x, v = .tuple #[x, .int .i64 e8]), .fst 1 5, .val (.int .i64 e8), .till 0 1 (IsZ wr) (IsZ.step) (fun s y y' v a a' _ hs hr h => h.over (hr.2 (by omega)).1 (Touch.of_below (g := w.heap.size) (q := none) (hr.2 (by omega)).2) (by omega) (fun j hj => by cases hj)), .fxOn 1 9 (fun u _ w => StepK wr FQ st8 u w) (fun u v w w' hb h => h.step u v w w' hb), .val (.int .i64 e8)] [5, 10] (fun s y wx => (s = 0 → Below wr.heap.size wr wx) ∧ wr.heap.size ≤ wx.heap.size ∧ y.2 ≤ wx.heap.size) (T := ?T14) (by kernel_rfl) ?hSt14 (0, 0) ?h014 ?hT14 ?hask14 ?hend14
          case hB14 =>
            exact Nat.le_refl _
          case hRB14 =>
            exact fun _ _ _ _ _ h => h.1
          case hSt14 =>
            exact fun _ _ _ _ hb h => ⟨fun hs => chain (h.1 hs) hb, Nat.le_trans h.2.1 hb.size, Nat.le_trans h.2.2 hb.size⟩
          case h014 =>
            exact ⟨fun _ => Below.refl _ _, Nat.le_refl _, Nat.zero_le _⟩
          case hT14 =>
            intro vs
            simp only [fill, Act.put, List.setIfInBounds_toArray, List.set_cons_succ, List.set_cons_zero, Nat.reduceAdd]
            exact rfl
          case hask14 =>
            refine askG_cons (fun vs w1 sg y hlo hhi hb hst hd hin => ?_) ?_
            · obtain rfl : sg = 0 := Nat.le_antisymm hhi hlo
              clear hlo hhi
              have hst0 : Below wr.heap.size wr w1 := hst.1 rfl
              simp only [DepG, Region.binds, GxI, List.getD_cons_zero, List.getD_cons_succ, Gx.av_val, Gx.av_valAt, Gx.av_fxAt, Gx.av_bsAt, Gx.av_ownAt, Gx.av_fxOwn, Gx.av_at, Gx.av_fx, Gx.av_on, Gx.av_fxOn, Gx.av_till, Gx.av_fxG, Gx.av_same, Gx.av_fst, Gx.av_till, Gx.av_fxG, Gx.av_same, Gx.av_fst, and_true] at hd
              have hk1 := kn.below hst0 kn.lt
              have y0 := hk1.cell 0
              have y1 := hk1.cell 1
              have y2 := hk1.cell 2
              have y3 := hk1.cell 3
              simp only [List.getElem?_toArray, List.getElem?_cons_zero, List.getElem?_cons_succ] at y0 y1 y2 y3
              have hl9 := hk1.lt
              go_simp
              exact givg_pure rfl rfl
            iterate 3 (refine askG_cons (fun vs w1 sg y hlo hhi hb hst hd hin => ?_) ?_; (focus (clear hlo hhi hst hin; simp only [DepG, Region.binds, GxI, List.getD_cons_zero, List.getD_cons_succ, Gx.av_val, Gx.av_valAt, Gx.av_fxAt, Gx.av_bsAt, Gx.av_ownAt, Gx.av_fxOwn, Gx.av_at, Gx.av_fx, Gx.av_on, Gx.av_fxOn, Gx.av_till, Gx.av_fxG, Gx.av_same, Gx.av_fst, and_true] at hd; go_simp; exact givg_pure rfl rfl)))
            refine askG_cons (fun vs w1 sg y hlo hhi hb hst hd hin => ?_) ?_
            · obtain rfl : sg = 0 := Nat.le_antisymm hhi hlo
              clear hlo hhi
              have hst0 : Below wr.heap.size wr w1 := hst.1 rfl
              simp only [DepG, Region.binds, GxI, List.getD_cons_zero, List.getD_cons_succ, Gx.av_val, Gx.av_valAt, Gx.av_fxAt, Gx.av_bsAt, Gx.av_ownAt, Gx.av_fxOwn, Gx.av_at, Gx.av_fx, Gx.av_on, Gx.av_fxOn, Gx.av_till, Gx.av_fxG, Gx.av_same, Gx.av_fst, Gx.av_till, Gx.av_fxG, Gx.av_same, Gx.av_fst, and_true] at hd
              have d0 := (World.cell?_of_block (a := ⟨b, off + j * 4, none⟩) (hst0.block b hbl)).trans c0
              have d1 := (World.cell?_of_block (a := ⟨b, off + j * 4 + 1, none⟩) (hst0.block b hbl)).trans c1
              have d2 := (World.cell?_of_block (a := ⟨b, off + j * 4 + 2, none⟩) (hst0.block b hbl)).trans c2
              have d3 := (World.cell?_of_block (a := ⟨b, off + j * 4 + 3, none⟩) (hst0.block b hbl)).trans c3
              have hbl1 : b < w1.heap.size := Nat.lt_of_lt_of_le hbl hst0.size
              go_simp
              exact givg_pure rfl rfl
            refine askG_cons (fun vs w1 sg y hlo hhi hb hst hd hin => ?_) ?_
            · obtain rfl : sg = 0 := Nat.le_antisymm hhi hlo
              clear hlo hhi
              have hst0 : Below wr.heap.size wr w1 := hst.1 rfl
              simp only [DepG, Region.binds, GxI, List.getD_cons_zero, List.getD_cons_succ, Gx.av_val, Gx.av_valAt, Gx.av_fxAt, Gx.av_bsAt, Gx.av_ownAt, Gx.av_fxOwn, Gx.av_at, Gx.av_fx, Gx.av_on, Gx.av_fxOn, Gx.av_till, Gx.av_fxG, Gx.av_same, Gx.av_fst, Gx.av_till, Gx.av_fxG, Gx.av_same, Gx.av_fst, and_true] at hd
              have hsz0 := hst0.size
              go_simp
              refine givg_enter ((rstep_any FQ st At nt ct x Ac mx cc w1 (fun b' h => Nat.lt_of_lt_of_le (HFQ.out b' h).2.2.2 hsz0) (hst'.step hst0) (by omega) HMX.out hmxb ((hbs1.below hst0).more hsz0) g2 g3).mono ?_)
              rintro e w2' ⟨A9, n9, c9, rfl, s9, b9⟩
              rw [HSS.out] at s9 ⊢
              simp only at s9 ⊢
              exact ⟨_, rfl, givg_fx (w1.heap.size, w2'.heap.size) rfl ⟨b9.mono (by omega), fun _ => ⟨rfl, b9⟩⟩ ⟨(fun h => by cases h), Nat.le_trans hsz0 b9.size, Nat.le_refl _⟩ ⟨A9, n9, c9, rfl, s9.mono fun b' h hlt' => h.imp id fun h => ⟨by omega, h, hlt'⟩⟩⟩
            refine askG_cons (fun vs w1 sg y hlo hhi hb hst hd hin => ?_) ?_
            · obtain rfl : sg = 1 := Nat.le_antisymm hhi hlo
              clear hlo hhi
              simp only [DepG, Region.binds, GxI, List.getD_cons_zero, List.getD_cons_succ, Gx.av_val, Gx.av_valAt, Gx.av_fxAt, Gx.av_bsAt, Gx.av_ownAt, Gx.av_fxOwn, Gx.av_at, Gx.av_fx, Gx.av_on, Gx.av_fxOn, Gx.av_till, Gx.av_fxG, Gx.av_same, Gx.av_fst, Gx.av_till, Gx.av_fxG, Gx.av_same, Gx.av_fst, and_true] at hd
              obtain ⟨A9, n9, c9, hv, _⟩ := hd (Nat.le_refl _)
              go_simp
              exact givg_pure rfl ⟨hv.symm, _, rfl⟩
            refine askG_cons (fun vs w1 sg y hlo hhi hb hst hd hin => ?_) ?_
            · clear hlo hhi
              simp only [DepG, Region.binds, GxI, List.getD_cons_zero, List.getD_cons_succ, Gx.av_val, Gx.av_valAt, Gx.av_fxAt, Gx.av_bsAt, Gx.av_ownAt, Gx.av_fxOwn, Gx.av_at, Gx.av_fx, Gx.av_on, Gx.av_fxOn, Gx.av_till, Gx.av_fxG, Gx.av_same, Gx.av_fst, Gx.av_till, Gx.av_fxG, Gx.av_same, Gx.av_fst, and_true] at hd
              obtain ⟨h8, x8, hx⟩ := hd
              have h7 : vs 5 = .tuple #[x8, .int .i64 e8] := h8.symm.trans hx
              go_simp
              exact givg_pure rfl ⟨_, h7⟩
            refine askG_cons (fun vs w1 sg y hlo hhi hb hst hd hin => ?_) ?_
            · clear hlo hhi
              simp only [DepG, Region.binds, GxI, List.getD_cons_zero, List.getD_cons_succ, Gx.av_val, Gx.av_valAt, Gx.av_fxAt, Gx.av_bsAt, Gx.av_ownAt, Gx.av_fxOwn, Gx.av_at, Gx.av_fx, Gx.av_on, Gx.av_fxOn, Gx.av_till, Gx.av_fxG, Gx.av_same, Gx.av_fst, Gx.av_till, Gx.av_fxG, Gx.av_same, Gx.av_fst, and_true] at hd
              obtain ⟨⟨h8, x8, hx⟩, _⟩ := hd
              have h7 : vs 5 = .tuple #[x8, .int .i64 e8] := h8.symm.trans hx
              go_simp
              exact givg_pure rfl rfl
            refine askG_cons (fun vs w1 sg y hlo hhi hb hst hd hin => ?_) ?_
            · clear hlo
              have hs1 := hst.2.1
              have hs2 := hst.2.2
              simp only [DepG, Region.binds, GxI, List.getD_cons_zero, List.getD_cons_succ, Gx.av_val, Gx.av_valAt, Gx.av_fxAt, Gx.av_bsAt, Gx.av_ownAt, Gx.av_fxOwn, Gx.av_at, Gx.av_fx, Gx.av_on, Gx.av_fxOn, Gx.av_till, Gx.av_fxG, Gx.av_same, Gx.av_fst, Gx.av_till, Gx.av_fxG, Gx.av_same, Gx.av_fst, and_true] at hd
              go_simp
              exact givg_value rfl ((Below.refl _ _).alloc (Nat.le_refl _) _) ⟨w1.heap.size, rfl, hs1, .inr hs2, Blk.new _ _ _⟩
            refine askG_cons (fun vs w1 sg y hlo hhi hb hst hd hin => ?_) ?_
            · obtain rfl : sg = 1 := Nat.le_antisymm hhi hlo
              clear hlo hhi
              simp only [DepG, Region.binds, GxI, List.getD_cons_zero, List.getD_cons_succ, Gx.av_val, Gx.av_valAt, Gx.av_fxAt, Gx.av_bsAt, Gx.av_ownAt, Gx.av_fxOwn, Gx.av_at, Gx.av_fx, Gx.av_on, Gx.av_fxOn, Gx.av_till, Gx.av_fxG, Gx.av_same, Gx.av_fst, Gx.av_till, Gx.av_fxG, Gx.av_same, Gx.av_fst, and_true] at hd
              obtain ⟨k', hv11, hk1, hk2, hk3⟩ := hd.1 (Nat.le_refl 1)
              obtain ⟨u9, hu9⟩ := hd.2.1
              obtain ⟨A9, n9, c9, hv7, sf⟩ := hd.2.2.1 (by omega)
              clear hd
              have hv9 : vs 7 = .agg #[.int .i64 st8.floor, .int .i64 st8.term, .int .i64 st8.vote, .slice A9 n9 c9] := by
                rw [hv7] at hu9
                injection hu9 with hu9
                have h0 := congrArg (fun a : Array Value => a[0]?) hu9
                simp only [List.getElem?_toArray, List.getElem?_cons_zero] at h0
                injection h0 with h0
                exact h0.symm
              clear hu9 hv7
              have y0 := hk3.cell 0
              have y1 := hk3.cell 1
              have y2 := hk3.cell 2
              have y3 := hk3.cell 3
              have z0 := hk3.free 0
              have z1 := hk3.free 1
              have z2 := hk3.free 2
              have z3 := hk3.free 3
              simp only [List.getElem?_toArray, List.getElem?_cons_zero, List.getElem?_cons_succ] at y0 y1 y2 y3
              go_simp
              have hFk : ¬ (FQ k' ∨ (wr.heap.size ≤ k' ∧ y.1 ≤ k' ∧ k' < y.2)) := fun h => by
                rcases h with h | h
                · have := (HFQ.out k' h).2.2.2; omega
                · omega
              have o8 := (((sf.setN hFk 0 (.int .i64 st8.floor)).setN hFk 1 (.int .i64 st8.term)).setN hFk 2 (.int .i64 st8.vote)).setN hFk 3 (.slice A9 n9 c9)
              have kk8 := (((hk3.set 0 (.int .i64 st8.floor)).set 1 (.int .i64 st8.term)).set 2 (.int .i64 st8.vote)).set 3 (.slice A9 n9 c9)
              refine givg_skip y rfl ⟨((((Below.refl wr.heap.size w1).setCell (by show wr.heap.size ≤ k'; omega) _).setCell (by show wr.heap.size ≤ k'; omega) _).setCell (by show wr.heap.size ≤ k'; omega) _).setCell (by show wr.heap.size ≤ k'; omega) _, fun h => by cases h⟩ ⟨(fun h => by cases h), by simpa using hst.2.1, by simpa using hst.2.2⟩ ⟨k', A9, n9, c9, hv11, hk1, kk8, o8.mono (fun b h _ => h.imp id fun h => h.1)⟩
            refine askG_cons (fun vs w1 sg y hlo hhi hb hst hd hin => ?_) ?_; (focus (clear hlo hhi hst hin; simp only [DepG, Region.binds, GxI, List.getD_cons_zero, List.getD_cons_succ, Gx.av_val, Gx.av_valAt, Gx.av_fxAt, Gx.av_bsAt, Gx.av_ownAt, Gx.av_fxOwn, Gx.av_at, Gx.av_fx, Gx.av_on, Gx.av_fxOn, Gx.av_till, Gx.av_fxG, Gx.av_same, Gx.av_fst, and_true] at hd; go_simp; exact givg_pure rfl rfl))
            exact askG_nil
          case hend14 =>
            intro vs w1 y hb hst hd
            simp only [AllG, GxI, List.getD_cons_zero, List.getD_cons_succ, Gx.av_val, Gx.av_valAt, Gx.av_fxAt, Gx.av_bsAt, Gx.av_ownAt, Gx.av_fxOwn, Gx.av_at, Gx.av_fx, Gx.av_on, Gx.av_fxOn, Gx.av_till, Gx.av_fxG, Gx.av_same, Gx.av_fst, and_true, Nat.reduceAdd] at hd
            have hlast := hd.2.2.2.2.2.2.2.2.2.2.2
            have h10 := hd.2.2.2.2.2.2.2.2.2.2.1
            clear hd
            obtain ⟨k', A9, n9, c9, hv11, hk1, hk3, sf⟩ := h10 (Nat.le_refl _)
            have h13 : vs 11 = .int .i64 e8 := hlast
            rw [hv11, h13]
            have bw1 := chain hbw hb
            have hbz1 := bw1.size
            have ks1 := ks.below hb ks.lt
            have kz1 := kz.below hb kz.lt
            have kn1 := kn.below hb kn.lt
            have ob1 := hown.step hb
            have hsw := hs.step bw1
            have hdw := hd.step bw1
            have htw := Touch.of_below (g := g) (q := q) bw1
            clear h10 hv11 h13 hlast hst hst' ks kz kn hown hbw c0 c1 c2 c3
            have y0 := hk3.cell 0
            have y1 := hk3.cell 1
            have y2 := hk3.cell 2
            have y3 := hk3.cell 3
            have x0 := kn1.cell 0
            have x1 := kn1.cell 1
            have x2 := kn1.cell 2
            have x3 := kn1.cell 3
            have z0 := kn1.free 0
            have z1 := kn1.free 1
            have z2 := kn1.free 2
            have z3 := kn1.free 3
            simp only [List.getElem?_toArray, List.getElem?_cons_zero, List.getElem?_cons_succ] at y0 y1 y2 y3 x0 x1 x2 x3
            have hlk := hk3.lt
            have hl14 := kn1.lt
            by_cases h8 : e8 = 0
            · subst h8
              have hsx : steps s (L.take (j + 1)) = (st8, 0) := by
                rw [hg.out, steps_snoc s _ x (by rw [HS.out]), HS.out]
                simp only
                rw [HSS.out]
                rfl
              have HSX := Lib.hid hsx
              have sf1 : StF w1 (fun b => (F b ∨ w.heap.size ≤ b) ∧ b ≠ w.heap.size + 1 ∧ b ≠ g14 ∧ b < w1.heap.size) st8 A9 n9 c9 := sf.mono fun b' h hlt' => by
                rcases h with h | h
                · have := HFQ.out b' h
                  exact ⟨this.1, this.2.1, this.2.2.1, hlt'⟩
                · exact ⟨.inr (by omega), by omega, by omega, hlt'⟩
              have hn9 : n9 ≤ 70 := by rw [← sf.1]; exact hln
              have hnf : ¬ ((F g14 ∨ w.heap.size ≤ g14) ∧ g14 ≠ w.heap.size + 1 ∧ g14 ≠ g14 ∧ g14 < w1.heap.size) := fun h => h.2.2.1 rfl
              have sz := (((sf1.setN hnf 0 (.int .i64 st8.floor)).setN hnf 1 (.int .i64 st8.term)).setN hnf 2 (.int .i64 st8.vote)).setN hnf 3 (.slice A9 n9 c9)
              have hsz : ((((w1.setCell ⟨g14, 0, none⟩ (.int .i64 st8.floor)).setCell ⟨g14, 1, none⟩ (.int .i64 st8.term)).setCell ⟨g14, 2, none⟩ (.int .i64 st8.vote)).setCell ⟨g14, 3, none⟩ (.slice A9 n9 c9)).heap.size = w1.heap.size := by simp
              have k8 := (((kn1.set 0 (.int .i64 st8.floor)).set 1 (.int .i64 st8.term)).set 2 (.int .i64 st8.vote)).set 3 (.slice A9 n9 c9)
              have b8 : Below w.heap.size w ((((w1.setCell ⟨g14, 0, none⟩ (.int .i64 st8.floor)).setCell ⟨g14, 1, none⟩ (.int .i64 st8.term)).setCell ⟨g14, 2, none⟩ (.int .i64 st8.vote)).setCell ⟨g14, 3, none⟩ (.slice A9 n9 c9)) := (((bw1.setCell (by show w.heap.size ≤ g14; omega) _).setCell (by show w.heap.size ≤ g14; omega) _).setCell (by show w.heap.size ≤ g14; omega) _).setCell (by show w.heap.size ≤ g14; omega) _
              have ks8 := (((ks1.far (p := ⟨g14, 0, none⟩) (by show w.heap.size ≠ g14; omega) (.int .i64 st8.floor)).far (p := ⟨g14, 1, none⟩) (by show w.heap.size ≠ g14; omega) (.int .i64 st8.term)).far (p := ⟨g14, 2, none⟩) (by show w.heap.size ≠ g14; omega) (.int .i64 st8.vote)).far (p := ⟨g14, 3, none⟩) (by show w.heap.size ≠ g14; omega) (.slice A9 n9 c9)
              have kz8 := (((kz1.far (p := ⟨g14, 0, none⟩) (by show w.heap.size + 1 ≠ g14; omega) (.int .i64 st8.floor)).far (p := ⟨g14, 1, none⟩) (by show w.heap.size + 1 ≠ g14; omega) (.int .i64 st8.term)).far (p := ⟨g14, 2, none⟩) (by show w.heap.size + 1 ≠ g14; omega) (.int .i64 st8.vote)).far (p := ⟨g14, 3, none⟩) (by show w.heap.size + 1 ≠ g14; omega) (.slice A9 n9 c9)
              have ob8 := Own.setT (Own.setT (Own.setT (Own.setT ob1 kn1 (by decide) 0 (.int .i64 st8.floor)) (kn1.set 0 (.int .i64 st8.floor)) (by decide) 1 (.int .i64 st8.term)) ((kn1.set 0 (.int .i64 st8.floor)).set 1 (.int .i64 st8.term)) (by decide) 2 (.int .i64 st8.vote)) (((kn1.set 0 (.int .i64 st8.floor)).set 1 (.int .i64 st8.term)).set 2 (.int .i64 st8.vote)) (by decide) 3 (.slice A9 n9 c9)
              clear sf sf1 hsx kn1 ks1 kz1 ob1 hsw hdw htw
              go_wp2_with fail
              exact ⟨⟨j + 1, st8, A9, n9, c9, by go_num, by omega, HSX.out, k8, by rw [hsz]; exact sz, hn9, ob8, b8, ks8, kz8⟩, by simp [intOf]; omega⟩
            · have hro : rOk x = true := by
                rw [List.all_eq_true] at hall
                exact hall x HXM.out
              have he5 : e8 = 5 := by
                have := sStep_err st x hro (by rw [HSS.out]; exact h8)
                rw [HSS.out] at this
                exact this
              subst he5
              have hsv : sSave d s L = (s, 5, d) := by
                have hb2 : (steps s L).2 = 5 := by
                  rw [hg'.out, steps_bad s _ _ x (by rw [HS.out]) (by rw [HS.out]; simp only; rw [HSS.out]; exact h8), HS.out]
                  simp only
                  rw [HSS.out]
                unfold sSave
                rw [if_pos hall, if_neg (by rw [hb2]; decide), hb2]
              have HSV := Lib.hid hsv
              clear y0 y1 y2 y3 x0 x1 x2 x3 z0 z1 z2 z3 hsv hk3 sf hall h8
              have y0 := ks1.cell 0
              have y1 := ks1.cell 1
              have y2 := ks1.cell 2
              have y3 := ks1.cell 3
              have q0 := kz1.cell 0
              have q1 := kz1.cell 1
              have q2 := kz1.cell 2
              have q3 := kz1.cell 3
              have z0 := kz1.free 0
              have z1 := kz1.free 1
              have z2 := kz1.free 2
              have z3 := kz1.free 3
              simp only [List.getElem?_toArray, List.getElem?_cons_zero, List.getElem?_cons_succ] at y0 y1 y2 y3 q0 q1 q2 q3
              have hl1 := ks1.lt
              have hl2 := kz1.lt
              go_wp2_with fail
              exact bodyPost_ret (v := .tuple #[.agg #[.int .i64 s.floor, .int .i64 s.term, .int .i64 s.vote, .slice A n c], .int .i64 5]) (by simp [results, Try.results37, go_sem, q0, q1, q2, q3, hl2]) rfl (rsave_exit HSV.out (fun b h _ => ⟨by have := (HF.out b h).1; omega, .inl h, (HF.out b h).2.2⟩) HG.out (.inl rfl) hsw hdw htw (by omega) (fun h => by have := (HQ.out _ h).2.1; omega))
        · obtain rfl : k = j := by omega
          rw [List.take_of_length_le (by rw [HLM.out]; exact Nat.le_refl _)] at hsteps
          have hsr := hs.step hb
          have hdr := hd.step hb
          have htr := Touch.of_below (g := g) (q := q) hb
          have hFF : ∀ b, ((F b ∨ w.heap.size ≤ b) ∧ b ≠ w.heap.size + 1 ∧ b ≠ g14 ∧ b < wr.heap.size) → b ≠ g ∧ some b ≠ q := by
            intro b h
            rcases h.1 with h | h
            · exact (HF.out b h).2
            · have := HG.out
              exact ⟨by omega, fun e => by have := (HQ.out b e.symm).2.1; omega⟩
          have hq2 : some (w.heap.size + 1) ≠ q := fun e => by have := (HQ.out _ e.symm).2.1; omega
          have hq1 : some w.heap.size ≠ q := fun e => by have := (HQ.out _ e.symm).2.1; omega
          have hq14 : some g14 ≠ q := fun e => by have := (HQ.out _ e.symm).2.1; omega
          have hg0 := HG.out
          have HFF := Lib.hid hFF
          have hkzl := kz.lt
          have hwF : ∀ b, F b → b ≠ w.heap.size + 1 ∧ (F b ∨ w.heap.size ≤ b) := fun b h => ⟨by have := (HF.out b h).1; omega, .inl h⟩
          clear hFF
          by_cases hk0 : k = 0
          · subst hk0
            obtain rfl : L = [] := List.eq_nil_of_length_eq_zero HLM.out
            have HSV := Lib.hid (show sSave d s [] = (s, 0, d) from rfl)
            have y0 := ks.cell 0
            have y1 := ks.cell 1
            have y2 := ks.cell 2
            have y3 := ks.cell 3
            have q0 := kz.cell 0
            have q1 := kz.cell 1
            have q2 := kz.cell 2
            have q3 := kz.cell 3
            have z0 := kz.free 0
            have z1 := kz.free 1
            have z2 := kz.free 2
            have z3 := kz.free 3
            have hl1 := ks.lt
            simp only [List.getElem?_toArray, List.getElem?_cons_zero, List.getElem?_cons_succ] at y0 y1 y2 y3 q0 q1 q2 q3
            clear hsteps
            go_wp2_with fail
            exact bodyPost_ret (v := .tuple #[.agg #[.int .i64 s.floor, .int .i64 s.term, .int .i64 s.vote, .slice A n c], .int .i64 0]) (by simp [results, Try.results37, go_sem, q0, q1, q2, q3, hkzl]) rfl (rsave_exit HSV.out (fun b h _ => ⟨(hwF b h).1, (hwF b h).2, (HF.out b h).2.2⟩) HG.out (.inl rfl) hsr hdr htr (by omega) hq2.symm)
          · have hLne : L ≠ [] := fun h => by have := HLM.out; rw [h] at this; exact hk0 this.symm
            have HLNE := Lib.hid hLne
            have hbn := hown.1
            have hbb := hown.bs
            clear hLne
            have hsv : sSave d s L = if (dAppend d (saveB L)).2 = 0 then
                (if (dSync (dAppend d (saveB L)).1).2 = 0 then (st, 0, (dSync (dAppend d (saveB L)).1).1) else (s, (dSync (dAppend d (saveB L)).1).2, (dSync (dAppend d (saveB L)).1).1))
                else (s, (dAppend d (saveB L)).2, (dAppend d (saveB L)).1) := by
              unfold sSave
              rw [if_pos hall, if_pos (by rw [hsteps]), if_neg HLNE.out, hsteps]
            have HSV0 := Lib.hid hsv
            clear hsv hsteps hall
            go_wp2_with fail
            refine (rappend_any base g q d Al (saveB L) nb cl wr hdr (by omega) hbn (by omega) hbb).mono ?_
            rintro e w10 ⟨q1, rfl, hd1, ht1, hm1⟩
            have HSV1 := HSV0.out
            obtain ⟨d1, e1, hde⟩ : ∃ d1 e1, dAppend d (saveB L) = (d1, e1) := ⟨_, _, rfl⟩
            rw [hde] at HSV1 hd1 ⊢
            simp only at HSV1 hd1 ⊢
            have ks10 := ks.touch ht1 (by omega) hq1
            have kz10 := kz.touch ht1 (by omega) hq2
            have kn10 := kn.touch ht1 (by omega) hq14
            have hs10 := hsr.touch ht1 (fun b h _ => (HF.out b h).2)
            have st10 := hst.touch ht1 (fun b h _ => HFF.out b h)
            have T1 := htr.trans ht1
            have M1 := hm1.pre hbz
            have hbz10 := T1.size
            have hq21 := hm1.not hkzl hq2
            have hq11 := hm1.not (by omega) hq1
            have hq141 := hm1.not hg14 hq14
            have hsz1 := ht1.size
            have HSV2 := Lib.hid HSV1
            clear HSV1 hde HSV0 ks kz kn hst hsr hdr htr hb hown hbb hbn
            by_cases h1 : e1 = 0
            · subst h1
              have HSV3 := HSV2.out
              rw [if_pos rfl] at HSV3
              have HSV4 := Lib.hid HSV3
              clear HSV2 HSV3
              go_wp2_with fail
              refine (rsync_any base g q1 d1 w10 hd1 (by omega)).mono ?_
              rintro e w11 ⟨q2, rfl, hd2, ht2, hm2⟩
              have HSV1 := HSV4.out
              obtain ⟨d2, e2, hde⟩ : ∃ d2 e2, dSync d1 = (d2, e2) := ⟨_, _, rfl⟩
              rw [hde] at HSV1 hd2 ⊢
              simp only at HSV1 hd2 ⊢
              have ks11 := ks10.touch ht2 (by omega) hq11
              have kz11 := kz10.touch ht2 (by omega) hq21
              have kn11 := kn10.touch ht2 (by omega) hq141
              have hs11 := hs10.touch ht2 (fun b h _ => ⟨(HF.out b h).2.1, hm1.not (by have := (HF.out b h).1; omega) (HF.out b h).2.2⟩)
              have st11 := st10.touch ht2 (fun b h _ => ⟨(HFF.out b h).1, hm1.not h.2.2.2 (HFF.out b h).2⟩)
              have T2 := T1.trans2 ht2 M1
              have M2w := hm1.trans hm2 hsz1
              have M2 := M2w.pre hbz
              have hbz11 := T2.size
              have hq22 := M2w.not hkzl hq2
              have HSV2 := Lib.hid HSV1
              clear HSV1 hde HSV4 ks10 kz10 kn10 hs10 st10 T1 ht1 ht2 hd1
              have q0 := kz11.cell 0
              have q1 := kz11.cell 1
              have q2 := kz11.cell 2
              have q3 := kz11.cell 3
              have z0 := kz11.free 0
              have z1 := kz11.free 1
              have z2 := kz11.free 2
              have z3 := kz11.free 3
              have hl9 := kz11.lt
              simp only [List.getElem?_toArray, List.getElem?_cons_zero, List.getElem?_cons_succ] at q0 q1 q2 q3
              by_cases h2 : e2 = 0
              · subst h2
                have HSV3 := HSV2.out
                rw [if_pos rfl] at HSV3
                have HSV := Lib.hid HSV3
                clear HSV3 HSV2
                have p0 := kn11.cell 0
                have p1 := kn11.cell 1
                have p2 := kn11.cell 2
                have p3 := kn11.cell 3
                have hln := kn11.lt
                simp only [List.getElem?_toArray, List.getElem?_cons_zero, List.getElem?_cons_succ] at p0 p1 p2 p3
                go_wp2_with fail
                exact bodyPost_ret (v := .tuple #[.agg #[.int .i64 st.floor, .int .i64 st.term, .int .i64 st.vote, .slice At nt ct], .int .i64 0]) (by simp [results, Try.results37, go_sem, q0, q1, q2, q3, hl9]) rfl (rsave_exit (t := st) HSV.out (fun b h _ => ⟨h.2.1, h.1, M2w.not h.2.2.2 (HFF.out b h).2⟩) HG.out M2 st11 hd2 T2 (by omega) hq22.symm)
              · have HSV3 := HSV2.out
                rw [if_neg h2] at HSV3
                have HSV := Lib.hid HSV3
                clear HSV3 HSV2
                have p0 := ks11.cell 0
                have p1 := ks11.cell 1
                have p2 := ks11.cell 2
                have p3 := ks11.cell 3
                have hln := ks11.lt
                simp only [List.getElem?_toArray, List.getElem?_cons_zero, List.getElem?_cons_succ] at p0 p1 p2 p3
                go_wp2_with fail
                exact bodyPost_ret (v := .tuple #[.agg #[.int .i64 s.floor, .int .i64 s.term, .int .i64 s.vote, .slice A n c], .int .i64 e2]) (by simp [results, Try.results37, go_sem, q0, q1, q2, q3, hl9]) rfl (rsave_exit (t := s) HSV.out (fun b h _ => ⟨(hwF b h).1, (hwF b h).2, M2w.not (by have := (HF.out b h).1; omega) (HF.out b h).2.2⟩) HG.out M2 hs11 hd2 T2 (by omega) hq22.symm)
            · have HSV3 := HSV2.out
              rw [if_neg h1] at HSV3
              have HSV := Lib.hid HSV3
              clear HSV3 HSV2
              have p0 := ks10.cell 0
              have p1 := ks10.cell 1
              have p2 := ks10.cell 2
              have p3 := ks10.cell 3
              have hln := ks10.lt
              have q0 := kz10.cell 0
              have q1 := kz10.cell 1
              have q2 := kz10.cell 2
              have q3 := kz10.cell 3
              have z0 := kz10.free 0
              have z1 := kz10.free 1
              have z2 := kz10.free 2
              have z3 := kz10.free 3
              have hl9 := kz10.lt
              simp only [List.getElem?_toArray, List.getElem?_cons_zero, List.getElem?_cons_succ] at p0 p1 p2 p3 q0 q1 q2 q3
              go_wp2_with fail
              exact bodyPost_ret (v := .tuple #[.agg #[.int .i64 s.floor, .int .i64 s.term, .int .i64 s.vote, .slice A n c], .int .i64 e1]) (by simp [results, Try.results37, go_sem, q0, q1, q2, q3, hl9]) rfl (rsave_exit (t := s) HSV.out (fun b h _ => ⟨(hwF b h).1, (hwF b h).2, hm1.not (by have := (HF.out b h).1; omega) (HF.out b h).2.2⟩) HG.out M1 hs10 hd1 T1 (by omega) hq21.symm)
end Go.Proofs.Ytcgkoojegopfnaa

namespace Go.Proofs.Ytcgkoojegopfnaa
open Go.RowKit
set_option linter.unusedSimpArgs false
set_option linter.unusedVariables false

theorem Blk.ne {w : World} {a b : Nat} {t t' : TypeId} {cs cs' : Array Value} (h : Blk w a t cs) (k : Blk w b t' cs') (ht : t ≠ t') : a ≠ b := fun e => by
  subst e
  unfold Blk at h k
  rw [h] at k
  injection k with k
  injection k with _ k
  exact ht k
theorem Rk.not_T {w : World} {base g k : Nat} {q : Option Nat} {d : Dsk} {t : TypeId} {cs : Array Value} (h : Rk w base g q d) (hk : Blk w k t cs) (ht : t ≠ 5) : q ≠ some k := by
  obtain ⟨_, _, A, n, c, rfl, _, ho⟩ := h
  exact (Own.rowT ho hk ht).symm
theorem Dk.blk {w : World} {base g : Nat} {q : Option Nat} {d : Dsk} (h : Dk w base g q d) : ∃ cs, Blk w g TD cs := by
  obtain ⟨_, _, A, n, c, _, h, _⟩ := h
  exact ⟨_, h⟩
theorem Rk.blk {w : World} {base g : Nat} {q : Option Nat} {d : Dsk} (h : Rk w base g q d) : ∃ cs, Blk w g TR cs := by
  obtain ⟨_, _, A, n, c, _, h, _⟩ := h
  exact ⟨_, h⟩

/-- Blocks that hold neither a disk nor a variable. -/
def FrS (w : World) (g h zs zt : Nat) (q p : Option Nat) (b : Nat) : Prop := b < w.heap.size ∧ b ≠ g ∧ b ≠ h ∧ b ≠ zs ∧ b ≠ zt ∧ some b ≠ q ∧ some b ≠ p
abbrev stCs (t : Stb) (A : Option Addr) (n c : Nat) : Array Value := #[.int .i64 t.floor, .int .i64 t.term, .int .i64 t.vote, .slice A n c]
abbrev set4 (w : World) (z : Nat) (t : Stb) (A : Option Addr) (n c : Nat) : World := (((w.setCell ⟨z, 0, none⟩ (.int .i64 t.floor)).setCell ⟨z, 1, none⟩ (.int .i64 t.term)).setCell ⟨z, 2, none⟩ (.int .i64 t.vote)).setCell ⟨z, 3, none⟩ (.slice A n c)
section
variable {w w' w0 : World} {g h z zs zt base : Nat} {q p q' p' : Option Nat} {t t0 : Stb} {A A0 : Option Addr} {n c n0 c0 : Nat} {d y : Dsk} {F : Nat → Prop}
theorem set4_size : (set4 w z t A n c).heap.size = w.heap.size := by simp [set4]
theorem set4_blk (k : Blk w z TSt (stCs t0 A0 n0 c0)) : Blk (set4 w z t A n c) z TSt (stCs t A n c) := (((k.set 0 (.int .i64 t.floor)).set 1 (.int .i64 t.term)).set 2 (.int .i64 t.vote)).set 3 (.slice A n c)
theorem set4_far {tt : TypeId} {cs : Array Value} (k : Blk w g tt cs) (hg : g ≠ z) : Blk (set4 w z t A n c) g tt cs := (((k.far (p := ⟨z, 0, none⟩) hg _).far (p := ⟨z, 1, none⟩) hg _).far (p := ⟨z, 2, none⟩) hg _).far (p := ⟨z, 3, none⟩) hg _
theorem set4_stf {t1 : Stb} {A1 : Option Addr} {n1 c1 : Nat} (k : StF w F t1 A1 n1 c1) (hF : ¬ F z) : StF (set4 w z t A n c) F t1 A1 n1 c1 := (((k.setN hF 0 _).setN hF 1 _).setN hF 2 _).setN hF 3 _
theorem set4_dk (k : Dk w base g q d) (hg : g ≠ z) (hq : q ≠ some z) : Dk (set4 w z t A n c) base g q d := (((k.setNew hg hq 0 _).setNew hg hq 1 _).setNew hg hq 2 _).setNew hg hq 3 _
theorem set4_rk (k : Rk w base g q d) (hg : g ≠ z) (hq : q ≠ some z) : Rk (set4 w z t A n c) base g q d := (((k.setNew hg hq 0 _).setNew hg hq 1 _).setNew hg hq 2 _).setNew hg hq 3 _
theorem set4_below {B : Nat} (k : Below B w0 w) (hz : B ≤ z) : Below B w0 (set4 w z t A n c) := (((k.setCell hz _).setCell hz _).setCell hz _).setCell hz _

/-- What holds at the head of a round: the disks d and y, in blocks q and p, the same state twice. -/
def RS (w0 w : World) (g h zs zt : Nat) (t : Stb) (d y : Dsk) (q p : Option Nat) : Prop :=
  ∃ A1 n1 c1 A2 n2 c2, Dk w w0.heap.size g q d ∧ Rk w w0.heap.size h p y ∧ (∀ k, q = some k → p ≠ some k) ∧ Blk w zs TSt (stCs t A1 n1 c1) ∧ Blk w zt TSt (stCs t A2 n2 c2) ∧
    StF w (FrS w g h zs zt q p) t A1 n1 c1 ∧ StF w (FrS w g h zs zt q p) t A2 n2 c2 ∧ t.log.length ≤ 70 ∧ zs ≠ zt ∧ w0.heap.size ≤ zs ∧ w0.heap.size ≤ zt ∧ Below w0.heap.size w0 w

/-- None of these blocks is another one. -/
structure Sep (w : World) (g h zs zt : Nat) (q p : Option Nat) : Prop where
  gh : g ≠ h
  sg : zs ≠ g
  sh : zs ≠ h
  tg : zt ≠ g
  th : zt ≠ h
  st : zs ≠ zt
  qh : q ≠ some h
  pg : p ≠ some g
  qs : q ≠ some zs
  qt : q ≠ some zt
  ps : p ≠ some zs
  pt : p ≠ some zt
  qp : ∀ k, q = some k → p ≠ some k
  gl : g < w.heap.size
  hl : h < w.heap.size
  sl : zs < w.heap.size
  tl : zt < w.heap.size
  ql : ∀ k, q = some k → k < w.heap.size
  pl : ∀ k, p = some k → k < w.heap.size
theorem sep_of {B : Nat} {cs cs' : Array Value} (hd : Dk w B g q d) (hr : Rk w B h p y) (hqp : ∀ k, q = some k → p ≠ some k) (ks : Blk w zs TSt cs) (kt : Blk w zt TSt cs') (hst : zs ≠ zt) : Sep w g h zs zt q p := by
  obtain ⟨cd, kd⟩ := hd.blk
  obtain ⟨cr, kr⟩ := hr.blk
  exact ⟨kd.ne kr (by decide), ks.ne kd (by decide), ks.ne kr (by decide), kt.ne kd (by decide), kt.ne kr (by decide), hst, hd.not_T kr (by decide), hr.not_T kd (by decide), hd.not_T ks (by decide), hd.not_T kt (by decide), hr.not_T ks (by decide), hr.not_T kt (by decide), hqp, kd.lt, kr.lt, ks.lt, kt.lt, fun k hk => (hd.q_lt k hk).2.1, fun k hk => (hr.q_lt k hk).2.1⟩
theorem FrS.step (hb : w.heap.size ≤ w'.heap.size) {b : Nat} (k : FrS w g h zs zt q p b) : FrS w' g h zs zt q p b := ⟨Nat.lt_of_lt_of_le k.1 hb, k.2⟩
theorem RS.sep (k : RS w0 w g h zs zt t d y q p) : Sep w g h zs zt q p := by
  obtain ⟨A1, n1, c1, A2, n2, c2, hd, hr, hqp, ks, kt, s1, s2, hl, hst, _⟩ := k
  exact sep_of hd hr hqp ks kt hst
/-- New blocks, and those of the call's own caller. -/
theorem RS.fresh (k : RS w0 w g h zs zt t d y q p) (hw : w.heap.size ≤ w'.heap.size) (b : Nat) (hb : b < w'.heap.size) (hc : b < w0.heap.size ∨ w.heap.size ≤ b) : FrS w' g h zs zt q p b := by
  have s := k.sep
  obtain ⟨A1, n1, c1, A2, n2, c2, hd, hr, hqp, ks, kt, s1, s2, hl, hst, h1, h2, h3⟩ := k
  have hg := hd.ge
  have hh := hr.ge
  have g1 := s.gl
  have g2 := s.hl
  have g3 := s.sl
  have g4 := s.tl
  refine ⟨hb, by omega, by omega, by omega, by omega, fun e => ?_, fun e => ?_⟩
  · have := hd.qge b e.symm
    have := s.ql b e.symm
    omega
  · have := hr.qge b e.symm
    have := s.pl b e.symm
    omega
theorem RS.step (k : RS w0 w g h zs zt t d y q p) (hb : Below w.heap.size w w') : RS w0 w' g h zs zt t d y q p := by
  obtain ⟨A1, n1, c1, A2, n2, c2, hd, hr, hqp, ks, kt, s1, s2, hl, hst, h1, h2, h3⟩ := k
  exact ⟨A1, n1, c1, A2, n2, c2, hd.step hb, hr.step hb, hqp, ks.below hb ks.lt, kt.below hb kt.lt, (s1.step hb).mono fun b h _ => h.step hb.size, (s2.step hb).mono fun b h _ => h.step hb.size, hl, hst, h1, h2, h3.trans (hb.mono h3.size)⟩
/-- Something is done to the program's disk. -/
theorem RS.left (k : RS w0 w g h zs zt t d y q p) {d' : Dsk} (hd' : Dk w' w0.heap.size g q' d') (ht : Touch w w' g q) (hm : Moved w q q') : RS w0 w' g h zs zt t d' y q' p := by
  have s := k.sep
  obtain ⟨A1, n1, c1, A2, n2, c2, hd, hr, hqp, ks, kt, s1, s2, hl, hst, h1, h2, h3⟩ := k
  have hF : ∀ b, FrS w g h zs zt q p b → b < w.heap.size → b ≠ g ∧ some b ≠ q := fun b h _ => ⟨h.2.1, h.2.2.2.2.2.1⟩
  have hF' : ∀ b, FrS w g h zs zt q p b → b < w'.heap.size → FrS w' g h zs zt q' p b := fun b h hlt => ⟨hlt, h.2.1, h.2.2.1, h.2.2.2.1, h.2.2.2.2.1, hm.not h.1 h.2.2.2.2.2.1, h.2.2.2.2.2.2⟩
  refine ⟨A1, n1, c1, A2, n2, c2, hd', hr.kept ht s.gh.symm s.qh.symm s.pg (fun k hk e => s.qp k e hk), fun k hk e => ?_, ks.touch ht s.sg s.qs.symm, kt.touch ht s.tg s.qt.symm, (s1.touch ht hF).mono hF', (s2.touch ht hF).mono hF', hl, hst, h1, h2, ?_⟩
  · rcases hm with rfl | ⟨k2, rfl, hle⟩
    · exact hqp k hk e
    · injection hk with hk
      have := s.pl k e
      omega
  · exact Touch.below h3 ht hd.ge hd.qge
/-- Something is done to the document's disk. -/
theorem RS.right (k : RS w0 w g h zs zt t d y q p) {y' : Dsk} (hr' : Rk w' w0.heap.size h p' y') (ht : Touch w w' h p) (hm : Moved w p p') : RS w0 w' g h zs zt t d y' q p' := by
  have s := k.sep
  obtain ⟨A1, n1, c1, A2, n2, c2, hd, hr, hqp, ks, kt, s1, s2, hl, hst, h1, h2, h3⟩ := k
  have hF : ∀ b, FrS w g h zs zt q p b → b < w.heap.size → b ≠ h ∧ some b ≠ p := fun b h _ => ⟨h.2.2.1, h.2.2.2.2.2.2⟩
  have hF' : ∀ b, FrS w g h zs zt q p b → b < w'.heap.size → FrS w' g h zs zt q p' b := fun b h hlt => ⟨hlt, h.2.1, h.2.2.1, h.2.2.2.1, h.2.2.2.2.1, h.2.2.2.2.2.1, hm.not h.1 h.2.2.2.2.2.2⟩
  refine ⟨A1, n1, c1, A2, n2, c2, hd.kept ht s.gh s.pg.symm s.qh (fun k hk e => s.qp k hk e), hr', fun k hk e => ?_, ks.touch ht s.sh s.ps.symm, kt.touch ht s.th s.pt.symm, (s1.touch ht hF).mono hF', (s2.touch ht hF).mono hF', hl, hst, h1, h2, ?_⟩
  · rcases hm with rfl | ⟨k2, rfl, hle⟩
    · exact hqp k hk e
    · injection e with e
      have := s.ql k hk
      omega
  · exact Touch.below h3 ht hr.ge hr.qge
end

theorem sSave_len (d : Dsk) (s : Stb) (L : List Rcd) (h : s.log.length ≤ 70) : (sSave d s L).1.log.length ≤ 70 := by
  have key : ∀ (L : List Rcd) (s : Stb), s.log.length ≤ 70 → (steps s L).1.log.length ≤ 70 := by
    intro L
    induction L with
    | nil => intro s h; exact h
    | cons r L ih =>
      intro s h
      unfold steps
      split
      · exact ih _ (sStep_len s r h)
      · exact h
  unfold sSave
  split
  · split
    · split
      · exact h
      · split
        · split
          · exact key L s h
          · exact h
        · exact h
    · exact h
  · exact h
end Go.Proofs.Ytcgkoojegopfnaa

namespace Go.Proofs.Ytcgkoojegopfnaa
open Go.ChangeShapes Go.WideShapes Go.ChangeAt Go.RowKit Go.Deep

/-- A slice of entries that reads as L: from what is known of each. -/
theorem En.of_cells {W : World} {F : Nat → Prop} {b off len : Nat} (hF : F b) (hb : 0 < len → b < W.heap.size) {G : Nat → Ent}
    (h : ∀ i, i < len → ∃ Ac cc, W.cell? ⟨b, off + i * 2, none⟩ = some (.int .i64 (G i).term) ∧ W.cell? ⟨b, off + i * 2 + 1, none⟩ = some (.slice Ac (G i).b.length cc) ∧ (G i).b.length ≤ cc ∧ cc ≤ maxLen ∧ BsF W F Ac (G i).b) :
    En W F (some ⟨b, off, none⟩) ((List.range len).map G) := by
  have hcell : ∀ j, j < len * 2 → ∃ v, W.cell? ⟨b, off + j, none⟩ = some v := fun j hj => by
    obtain ⟨Ac, cc, h1, h2, _⟩ := h (j / 2) (by omega)
    rcases Nat.mod_two_eq_zero_or_one j with hm | hm
    · refine ⟨.int .i64 (G (j / 2)).term, ?_⟩
      rw [show off + j = off + j / 2 * 2 by omega]
      exact h1
    · refine ⟨.slice Ac (G (j / 2)).b.length cc, ?_⟩
      rw [show off + j = off + j / 2 * 2 + 1 by omega]
      exact h2
  obtain ⟨V, hV⟩ := choose_lt (α := Value) (n := len * 2) hcell
  have hvs : ∀ j, j < len * 2 → ((List.range (len * 2)).map V)[j]? = some (V j) := fun j hj => by simp [hj]
  refine ⟨(List.range (len * 2)).map V, by simp, fun hl => ⟨b, off, rfl, hF, hb (by simp at hl; omega), fun j hj => ?_⟩, fun i x hx => ?_⟩
  · have hj' : j < len * 2 := by simpa using hj
    rw [hvs j hj']
    exact hV j hj'
  · have hlt : i < len := by
      have := (List.getElem?_eq_some_iff.1 hx).1
      simpa using this
    obtain rfl : G i = x := by simpa [hlt] using hx
    obtain ⟨Ac, cc, h1, h2, h3, h4, h5⟩ := h i hlt
    refine ⟨Ac, cc, ?_, ?_, h3, h4, h5⟩
    · rw [hvs (i * 2) (by omega), ← hV (i * 2) (by omega)]
      exact h1
    · rw [hvs (i * 2 + 1) (by omega), ← hV (i * 2 + 1) (by omega)]
      exact h2

theorem open_ents {H : Type} {enc : TypeId × Value → H} {P : Program} {t e ti ts tk : TypeId} {f0 f1 : Field} (ht : P.underlying t = some (.slice e)) (he : P.underlying e = some (.struct #[f0, f1]))
    (hone : oneCellFields P #[f0, f1] = true) (hC : P.cellsOf e = 2)
    (t0 : f0.type = ti) (t1 : f1.type = ts) (ui : P.underlying ti = some (.int .i64)) (us : P.underlying ts = some (.slice tk)) (uk : P.underlying tk = some (.int .u8)) (ck : P.cellsOf tk = 1)
    {W : World} {fuel : Nat} {cs : List Value} {x : DataW H × List MemPlace} {sp : Nat → Bool} {hd : Bool} (h : DataW.trod enc P W 0 sp hd fuel t cs = some x) :
    ∃ (a : Option Addr) (L : List Ent) (len cap : Nat), cs = [.slice a len cap] ∧ L.length = len ∧ len ≤ cap ∧ cap ≤ maxLen ∧ En W (fun b => b < W.heap.size) a L := by
  rcases open_slice_fields ht he hone (hC.trans rfl) h with hcs | ⟨y, l, c, m, hcs, hl, hm, hmm, hi⟩
  · exact ⟨none, [], 0, 0, hcs, rfl, Nat.le_refl _, Nat.zero_le _, En.nil⟩
  · have hlm : l ≤ m := by rw [hmm]; split <;> omega
    have key : ∀ i, i < l → ∃ z : Ent, ∃ Ac cc, W.cell? (y.add (i * 2)) = some (.int .i64 z.term) ∧ W.cell? (y.add (i * 2 + 1)) = some (.slice Ac z.b.length cc) ∧
        z.b.length ≤ cc ∧ cc ≤ maxLen ∧ Bs W W.heap.size Ac z.b := by
      intro i hlt
      obtain ⟨n, hfld⟩ := hi i (by omega)
      obtain ⟨v0, y0, c0, r0⟩ := hfld 0 f0 rfl
      obtain ⟨v1, y1, c1, r1⟩ := hfld 1 f1 rfl
      rw [t0] at r0
      rw [t1] at r1
      obtain ⟨n0, e0, _, w0⟩ := DataW.trod_int ui r0
      obtain ⟨l2, a2, c2', e2, g1, g2, g3⟩ := open_bs0 us uk ck r1
      injection e0 with e0
      subst e0 e2
      exact ⟨⟨n0, l2⟩, a2, c2', c0, c1, g1, g2, g3⟩
    obtain ⟨G, hG⟩ := choose_lt (α := Ent) (n := l) key
    rcases Nat.eq_zero_or_pos l with rfl | hpos
    · exact ⟨some y, [], 0, c, hcs, rfl, Nat.zero_le _, hm, En.nil⟩
    · have hc0 : ∃ v, W.cell? (y.add (0 * 2)) = some v := by obtain ⟨_, _, h, _⟩ := hG 0 hpos; exact ⟨_, h⟩
      obtain ⟨v0, hc0⟩ := hc0
      obtain ⟨b, off, spot⟩ := y
      have hspot : spot = none := by simpa [Addr.add] using World.cell?_spot hc0
      subst hspot
      have hb : b < W.heap.size := World.block_lt_of_cell? W _ hc0
      refine ⟨some ⟨b, off, none⟩, (List.range l).map G, l, c, hcs, by simp, hl, hm, En.of_cells (F := fun b => b < W.heap.size) hb (fun _ => hb) fun i hlt => ?_⟩
      obtain ⟨Ac, cc, g0, g1, g2, g3, g4⟩ := hG i hlt
      rw [Addr.add_lit] at g0 g1
      exact ⟨Ac, cc, g0, g1, g2, g3, (BsF.of_bs g4 (Nat.le_refl _)).mono fun _ h _ => h⟩

theorem open_stb {H : Type} {enc : TypeId × Value → H} {P : Program} {r : Reach} {b0 : Nat} {t ti te e ts tk : TypeId} {f0 f1 f2 f3 e0 e1 : Field} (ht : P.underlying t = some (.struct #[f0, f1, f2, f3])) (hone : oneCellFields P #[f0, f1, f2, f3] = true) (hC : P.cellsOf t = 4)
    (t0 : f0.type = ti) (t1 : f1.type = ti) (t2 : f2.type = ti) (t3 : f3.type = te) (ui : P.underlying ti = some (.int .i64)) (ue : P.underlying te = some (.slice e)) (he : P.underlying e = some (.struct #[e0, e1]))
    (hone' : oneCellFields P #[e0, e1] = true) (hC' : P.cellsOf e = 2) (u0 : e0.type = ti) (u1 : e1.type = ts) (us : P.underlying ts = some (.slice tk)) (uk : P.underlying tk = some (.int .u8)) (ck : P.cellsOf tk = 1)
    {W : World} {v : Value} {d : DataW H} {ps : List MemPlace} {sp : Nat → Bool} {hd : Bool} (hv : Value.okWide P W r b0 t v) (h : DataW.Trod enc P W 0 sp hd t v d ps) :
    ∃ (s : Stb) (A : Option Addr) (n c : Nat), v = .agg #[.int .i64 s.floor, .int .i64 s.term, .int .i64 s.vote, .slice A n c] ∧ StF W (fun b => b < W.heap.size) s A n c := by
  obtain ⟨v0, v1, v2, v3, y0, y1, y2, y3, n, rfl, _, _, h0, h1, h2, h3⟩ := Go.Joins.open_agg4 ht hone hC hv h
  rw [t0] at h0
  rw [t1] at h1
  rw [t2] at h2
  rw [t3] at h3
  obtain ⟨n0, e0', _, w0⟩ := DataW.trod_int ui h0
  obtain ⟨n1, e1', _, w1⟩ := DataW.trod_int ui h1
  obtain ⟨n2, e2', _, w2⟩ := DataW.trod_int ui h2
  obtain ⟨a, L, len, cap, hcs, g1, g2, g3, g4⟩ := open_ents ue he hone' hC' u0 u1 ui us uk ck h3
  injection e0' with e0'
  injection e1' with e1'
  injection e2' with e2'
  injection hcs with hcs
  subst e0' e1' e2' hcs
  exact ⟨⟨n0, n1, n2, L⟩, a, len, cap, rfl, g1, g2, g3, g4⟩
end Go.Proofs.Ytcgkoojegopfnaa

namespace Go.Proofs.Ytcgkoojegopfnaa
open Go.ChangeShapes Go.WideShapes Go.ChangeAt Go.RowKit Go.Deep

instance : Inhabited Rcd := ⟨⟨0, 0, 0, []⟩⟩

/-- A slice of records that reads as L: from what is known of each. -/
theorem Rc.of_cells {W : World} {F : Nat → Prop} {b off len : Nat} (hF : F b) (hb : 0 < len → b < W.heap.size) {G : Nat → Rcd}
    (h : ∀ i, i < len → ∃ Ac cc, W.cell? ⟨b, off + i * 4, none⟩ = some (.int .i64 (G i).kind) ∧ W.cell? ⟨b, off + i * 4 + 1, none⟩ = some (.int .i64 (G i).a) ∧ W.cell? ⟨b, off + i * 4 + 2, none⟩ = some (.int .i64 (G i).b) ∧ W.cell? ⟨b, off + i * 4 + 3, none⟩ = some (.slice Ac (G i).x.length cc) ∧
      (G i).x.length ≤ cc ∧ cc ≤ maxLen ∧ BsF W F Ac (G i).x ∧ bd64 (G i).kind ∧ bd64 (G i).a ∧ bd64 (G i).b) :
    Rc W F (some ⟨b, off, none⟩) ((List.range len).map G) := by
  have hcell : ∀ j, j < len * 4 → ∃ v, W.cell? ⟨b, off + j, none⟩ = some v := fun j hj => by
    obtain ⟨Ac, cc, h0, h1, h2, h3, _⟩ := h (j / 4) (by omega)
    have hm : j % 4 = 0 ∨ j % 4 = 1 ∨ j % 4 = 2 ∨ j % 4 = 3 := by omega
    rcases hm with hm | hm | hm | hm
    · exact ⟨_, by rw [show off + j = off + j / 4 * 4 by omega]; exact h0⟩
    · exact ⟨_, by rw [show off + j = off + j / 4 * 4 + 1 by omega]; exact h1⟩
    · exact ⟨_, by rw [show off + j = off + j / 4 * 4 + 2 by omega]; exact h2⟩
    · exact ⟨_, by rw [show off + j = off + j / 4 * 4 + 3 by omega]; exact h3⟩
  obtain ⟨V, hV⟩ := choose_lt (α := Value) (n := len * 4) hcell
  have hvs : ∀ j, j < len * 4 → ((List.range (len * 4)).map V)[j]? = some (V j) := fun j hj => by simp [hj]
  refine ⟨(List.range (len * 4)).map V, by simp, fun hl => ⟨b, off, rfl, hF, hb (by simp at hl; omega), fun j hj => ?_⟩, fun i x hx => ?_⟩
  · have hj' : j < len * 4 := by simpa using hj
    rw [hvs j hj']
    exact hV j hj'
  · have hlt : i < len := by
      have := (List.getElem?_eq_some_iff.1 hx).1
      simpa using this
    obtain rfl : G i = x := by simpa [hlt] using hx
    obtain ⟨Ac, cc, h0, h1, h2, h3, h4⟩ := h i hlt
    refine ⟨Ac, cc, ?_, ?_, ?_, ?_, h4⟩
    · rw [hvs (i * 4) (by omega), ← hV (i * 4) (by omega)]
      exact h0
    · rw [hvs (i * 4 + 1) (by omega), ← hV (i * 4 + 1) (by omega)]
      exact h1
    · rw [hvs (i * 4 + 2) (by omega), ← hV (i * 4 + 2) (by omega)]
      exact h2
    · rw [hvs (i * 4 + 3) (by omega), ← hV (i * 4 + 3) (by omega)]
      exact h3

theorem open_rcs0 {H : Type} {enc : TypeId × Value → H} {P : Program} {t e ti ts tk : TypeId} {f0 f1 f2 f3 : Field} (ht : P.underlying t = some (.slice e)) (he : P.underlying e = some (.struct #[f0, f1, f2, f3]))
    (hone : oneCellFields P #[f0, f1, f2, f3] = true) (hC : P.cellsOf e = 4)
    (t0 : f0.type = ti) (t1 : f1.type = ti) (t2 : f2.type = ti) (t3 : f3.type = ts) (ui : P.underlying ti = some (.int .i64)) (us : P.underlying ts = some (.slice tk)) (uk : P.underlying tk = some (.int .u8)) (ck : P.cellsOf tk = 1)
    {W : World} {fuel : Nat} {cs : List Value} {x : DataW H × List MemPlace} {sp : Nat → Bool} {hd : Bool} (h : DataW.trod enc P W 0 sp hd fuel t cs = some x) :
    ∃ (a : Option Addr) (L : List Rcd) (len cap : Nat), cs = [.slice a len cap] ∧ L.length = len ∧ len ≤ cap ∧ cap ≤ maxLen ∧ Rc W (fun b => b < W.heap.size) a L := by
  rcases open_slice_fields ht he hone (hC.trans rfl) h with hcs | ⟨y, l, c, m, hcs, hl, hm, hmm, hi⟩
  · exact ⟨none, [], 0, 0, hcs, rfl, Nat.le_refl _, Nat.zero_le _, Rc.nil⟩
  · have hlm : l ≤ m := by rw [hmm]; split <;> omega
    have key : ∀ i, i < l → ∃ z : Rcd, ∃ Ac cc, W.cell? (y.add (i * 4)) = some (.int .i64 z.kind) ∧ W.cell? (y.add (i * 4 + 1)) = some (.int .i64 z.a) ∧ W.cell? (y.add (i * 4 + 2)) = some (.int .i64 z.b) ∧ W.cell? (y.add (i * 4 + 3)) = some (.slice Ac z.x.length cc) ∧
        z.x.length ≤ cc ∧ cc ≤ maxLen ∧ Bs W W.heap.size Ac z.x ∧ bd64 z.kind ∧ bd64 z.a ∧ bd64 z.b := by
      intro i hlt
      obtain ⟨n, hfld⟩ := hi i (by omega)
      obtain ⟨v0, y0, c0, r0⟩ := hfld 0 f0 rfl
      obtain ⟨v1, y1, c1, r1⟩ := hfld 1 f1 rfl
      obtain ⟨v2, y2, c2, r2⟩ := hfld 2 f2 rfl
      obtain ⟨v3, y3, c3, r3⟩ := hfld 3 f3 rfl
      rw [t0] at r0
      rw [t1] at r1
      rw [t2] at r2
      rw [t3] at r3
      obtain ⟨n0, e0, _, w0⟩ := DataW.trod_int ui r0
      obtain ⟨n1, e1, _, w1⟩ := DataW.trod_int ui r1
      obtain ⟨n2, e2, _, w2⟩ := DataW.trod_int ui r2
      obtain ⟨l2, a2, c2', e3, g1, g2, g3⟩ := open_bs0 us uk ck r3
      injection e0 with e0
      injection e1 with e1
      injection e2 with e2
      subst e0 e1 e2 e3
      exact ⟨⟨n0, n1, n2, l2⟩, a2, c2', c0, c1, c2, c3, g1, g2, g3, bounds_i64 w0, bounds_i64 w1, bounds_i64 w2⟩
    obtain ⟨G, hG⟩ := choose_lt (α := Rcd) (n := l) key
    rcases Nat.eq_zero_or_pos l with rfl | hpos
    · exact ⟨some y, [], 0, c, hcs, rfl, Nat.zero_le _, hm, Rc.nil⟩
    · have hc0 : ∃ v, W.cell? (y.add (0 * 4)) = some v := by obtain ⟨_, _, h, _⟩ := hG 0 hpos; exact ⟨_, h⟩
      obtain ⟨v0, hc0⟩ := hc0
      obtain ⟨b, off, spot⟩ := y
      have hspot : spot = none := by simpa [Addr.add] using World.cell?_spot hc0
      subst hspot
      have hb : b < W.heap.size := World.block_lt_of_cell? W _ hc0
      refine ⟨some ⟨b, off, none⟩, (List.range l).map G, l, c, hcs, by simp, hl, hm, Rc.of_cells (F := fun b => b < W.heap.size) hb (fun _ => hb) fun i hlt => ?_⟩
      obtain ⟨Ac, cc, g0, g1, g2, g3, g4, g5, g6, g7⟩ := hG i hlt
      rw [Addr.add_lit] at g0 g1 g2 g3
      exact ⟨Ac, cc, g0, g1, g2, g3, g4, g5, (BsF.of_bs g6 (Nat.le_refl _)).mono fun _ h _ => h, g7⟩

theorem open_rcs {H : Type} {enc : TypeId × Value → H} {P : Program} {t e ti ts tk : TypeId} {f0 f1 f2 f3 : Field} (ht : P.underlying t = some (.slice e)) (he : P.underlying e = some (.struct #[f0, f1, f2, f3]))
    (hone : oneCellFields P #[f0, f1, f2, f3] = true) (hC : P.cellsOf e = 4)
    (t0 : f0.type = ti) (t1 : f1.type = ti) (t2 : f2.type = ti) (t3 : f3.type = ts) (ui : P.underlying ti = some (.int .i64)) (us : P.underlying ts = some (.slice tk)) (uk : P.underlying tk = some (.int .u8)) (ck : P.cellsOf tk = 1)
    {W : World} {a : Option Addr} {len cap : Nat} {d : DataW H} {ps : List MemPlace} {sp : Nat → Bool} {hd : Bool} (h : DataW.Trod enc P W 0 sp hd t (.slice a len cap) d ps) :
    ∃ L : List Rcd, L.length = len ∧ len ≤ cap ∧ cap ≤ maxLen ∧ Rc W (fun b => b < W.heap.size) a L := by
  obtain ⟨fuel, hf⟩ := h
  obtain ⟨a', L, len', cap', hcs, h1, h2, h3, h4⟩ := open_rcs0 ht he hone hC t0 t1 t2 t3 ui us uk ck hf
  simp [Value.cells] at hcs
  obtain ⟨rfl, rfl, rfl⟩ := hcs
  exact ⟨L, h1, h2, h3, h4⟩

/-- Rows of records, in a row, in blocks below B. -/
def Rcc (w : World) (B : Nat) (A : Option Addr) (LL : List (List Rcd)) : Prop :=
  ∀ i L, LL[i]? = some L → ∃ b off Ai ci, A = some ⟨b, off, none⟩ ∧ b < B ∧ w.cell? ⟨b, off + i, none⟩ = some (.slice Ai L.length ci) ∧ L.length ≤ ci ∧ ci ≤ maxLen ∧ Rc w (fun b => b < B) Ai L
theorem Rcc.below {w w' : World} {B : Nat} {A : Option Addr} {LL : List (List Rcd)} (h : Rcc w B A LL) (hb : Below B w w') : Rcc w' B A LL := fun i L hx => by
  obtain ⟨b, off, Ai, ci, rfl, h1, h2, h3, h4, h5⟩ := h i L hx
  exact ⟨b, off, Ai, ci, rfl, h1, (World.cell?_of_block (a := ⟨b, off + i, none⟩) (hb.block b h1)).trans h2, h3, h4, h5.keep hb.size fun b hf _ => hb.block b hf⟩

theorem open_rcss {H : Type} {enc : TypeId × Value → H} {P : Program} {t r e ti ts tk : TypeId} {f0 f1 f2 f3 : Field} (ht : P.underlying t = some (.slice r)) (hcr : P.cellsOf r = 1) (hr : P.underlying r = some (.slice e)) (he : P.underlying e = some (.struct #[f0, f1, f2, f3]))
    (hone : oneCellFields P #[f0, f1, f2, f3] = true) (hC : P.cellsOf e = 4)
    (t0 : f0.type = ti) (t1 : f1.type = ti) (t2 : f2.type = ti) (t3 : f3.type = ts) (ui : P.underlying ti = some (.int .i64)) (us : P.underlying ts = some (.slice tk)) (uk : P.underlying tk = some (.int .u8)) (ck : P.cellsOf tk = 1)
    {W : World} {a : Option Addr} {len cap : Nat} {d : DataW H} {ps : List MemPlace} {sp : Nat → Bool} {hd : Bool} (h : DataW.Trod enc P W 0 sp hd t (.slice a len cap) d ps) :
    ∃ LL : List (List Rcd), LL.length = len ∧ len ≤ cap ∧ cap ≤ maxLen ∧ Rcc W W.heap.size a LL := by
  obtain ⟨fuel, hf⟩ := h
  rcases open_slice1 ht hcr hf with ⟨hcs, _⟩ | ⟨x, l, c, m, n, V, D, Pl, hcs, _, hl, hm, hmm, _, hi⟩
  · simp [Value.cells] at hcs
    obtain ⟨rfl, rfl, rfl⟩ := hcs
    exact ⟨[], rfl, Nat.le_refl _, Nat.zero_le _, fun i L h => by simp at h⟩
  · simp [Value.cells] at hcs
    obtain ⟨rfl, rfl, rfl⟩ := hcs
    have hlm : len ≤ m := by rw [hmm]; split <;> omega
    obtain ⟨F, hF⟩ := choose_lt (α := List Rcd) (n := len) (p := fun i L => ∃ a cap, V i = .slice a L.length cap ∧ L.length ≤ cap ∧ cap ≤ maxLen ∧ Rc W (fun b => b < W.heap.size) a L) (fun i hlt => by
      obtain ⟨a', L, len', cap', hcs, h1, h2, h3, h4⟩ := open_rcs0 hr he hone hC t0 t1 t2 t3 ui us uk ck (hi i (by omega)).2
      injection hcs with hcs
      subst h1
      exact ⟨L, a', cap', hcs, h2, h3, h4⟩)
    refine ⟨(List.range len).map F, by simp, hl, hm, fun i L hL => ?_⟩
    have hlt : i < len := by
      have := (List.getElem?_eq_some_iff.1 hL).1
      simpa using this
    obtain rfl : F i = L := by simpa [hlt] using hL
    have hc0 := (hi i (by omega)).1
    have hc1 := (hi 0 (by omega)).1
    obtain ⟨b, off, spot⟩ := x
    have hspot : spot = none := by simpa [Addr.add] using World.cell?_spot hc1
    subst hspot
    obtain ⟨Ai, ci, h1, h2, h3, h4⟩ := hF i hlt
    rw [Addr.add_lit, h1] at hc0
    exact ⟨b, off, Ai, ci, rfl, World.block_lt_of_cell? W _ hc0, hc0, h2, h3, h4⟩
end Go.Proofs.Ytcgkoojegopfnaa

namespace Go.Proofs.Ytcgkoojegopfnaa
open Go.RowKit
set_option linter.unusedSimpArgs false
set_option linter.unusedVariables false

set_option maxRecDepth 100000 in
set_option maxHeartbeats 3200000 in
theorem storeSaves_walk (w : World) (A : Option Addr) (LL : List (List Rcd)) (n c : Nat) (hn : LL.length = n) (hnc : n ≤ c) (hcm : c ≤ maxLen) (hl : Rcc w w.heap.size A LL)
    (X : Option Addr) (ds : List UInt8) (m cx : Nat) (hm : ds.length = m) (hmc : m ≤ cx) (hcx : cx ≤ maxLen) (hX : Bs w w.heap.size X ds) :
    Calls Try.prog 10 #[.slice A n c, .slice X m cx] w fun e w' => e = .returned (.bool true) ∧ Below w.heap.size w w' := by
  have HN := Lib.hid hn
  have HM := Lib.hid hm
  unfold maxLen at hcm hcx
  clear hn hm
  go_enter Try.func10, Try.ntmps10
  go_wp2_with fail
  refine (shown15_any _).mono ?_
  rintro e w1 ⟨rfl, b1⟩
  go_wp2_with fail
  refine (new_any _).mono ?_
  rintro e w2 ⟨g, rfl, d0, f2⟩
  have b2 := chain b1 f2
  clear f2
  have hg2 := d0.g_lt
  have start : RS w (((w2.alloc (.cells #[.slice none 0 0, .int .i64 0, .bool false, .bool false, .int .i64 0] TR)).alloc (.cells #[.int .i64 0, .int .i64 0, .int .i64 0, .slice none 0 0] TSt)).alloc (.cells #[.int .i64 0, .int .i64 0, .int .i64 0, .slice none 0 0] TSt)) g w2.heap.size (w2.heap.size + 1) (w2.heap.size + 1 + 1) st0 dNew dNew none none := by
    have ba := (Below.refl w2.heap.size w2).alloc (Nat.le_refl _) (.cells #[.slice none 0 0, .int .i64 0, .bool false, .bool false, .int .i64 0] TR)
    have bb := ba.alloc ba.size (.cells #[.int .i64 0, .int .i64 0, .int .i64 0, .slice none 0 0] TSt)
    have bc := bb.alloc bb.size (.cells #[.int .i64 0, .int .i64 0, .int .i64 0, .slice none 0 0] TSt)
    have kr := ((Blk.new w2 TR #[.slice none 0 0, .int .i64 0, .bool false, .bool false, .int .i64 0]).alloc (.cells #[.int .i64 0, .int .i64 0, .int .i64 0, .slice none 0 0] TSt)).alloc (.cells #[.int .i64 0, .int .i64 0, .int .i64 0, .slice none 0 0] TSt)
    have ks := (Blk.new (w2.alloc (.cells #[.slice none 0 0, .int .i64 0, .bool false, .bool false, .int .i64 0] TR)) TSt #[.int .i64 0, .int .i64 0, .int .i64 0, .slice none 0 0]).alloc (.cells #[.int .i64 0, .int .i64 0, .int .i64 0, .slice none 0 0] TSt)
    have kt := Blk.new ((w2.alloc (.cells #[.slice none 0 0, .int .i64 0, .bool false, .bool false, .int .i64 0] TR)).alloc (.cells #[.int .i64 0, .int .i64 0, .int .i64 0, .slice none 0 0] TSt)) TSt #[.int .i64 0, .int .i64 0, .int .i64 0, .slice none 0 0]
    rw [World.size_alloc] at ks
    rw [World.size_alloc, World.size_alloc] at kt
    have h2 := b2.size
    exact ⟨none, 0, 0, none, 0, 0, (d0.mono b1.size).step bc, ⟨b2.size, dNew_ok, none, 0, 0, rfl, kr, Ob.nil_ _ _ _⟩, (fun k hk => by cases hk), ks, kt, ⟨rfl, Nat.le_refl _, Nat.zero_le _, En.nil⟩, ⟨rfl, Nat.le_refl _, Nat.zero_le _, En.nil⟩, by decide, by omega, by omega, by omega, b2.trans (bc.mono b2.size)⟩
  go_wp2_with fail
  generalize ((w2.alloc (.cells #[.slice none 0 0, .int .i64 0, .bool false, .bool false, .int .i64 0] TR)).alloc (.cells #[.int .i64 0, .int .i64 0, .int .i64 0, .slice none 0 0] TSt)).alloc (.cells #[.int .i64 0, .int .i64 0, .int .i64 0, .slice none 0 0] TSt) = w3 at *
  clear d0 b2 hg2 b1
  generalize w2.heap.size = hh at *
  go_loopw [10] (fun i wr => ∃ (k : Nat) (t : Stb) (d : Dsk) (q p : Option Nat), i = .int .i64 k ∧ k ≤ n ∧ k ≤ 6 ∧ RS w wr g hh (hh + 1) (hh + 1 + 1) t d d q p) (fun i _ => n - (intOf i).toNat)
  case atStart => exact ⟨0, st0, dNew, none, none, rfl, by omega, by omega, start⟩
  case round =>
    clear start
    obtain ⟨k, t, d, q, p, rfl, hk, hk6, hrs⟩ := hrel
    by_cases hlt : k < n ∧ k < 6
    · obtain ⟨hlt, hlt6⟩ := hlt
      have hxl : LL[k]? = some (LL[k]'(by rw [HN.out]; exact hlt)) := List.getElem?_eq_getElem _
      obtain ⟨b, off, Ai, ci, rfl, hbl, hcell, hci, hcim, hrc⟩ := hl k _ hxl
      clear hxl
      generalize LL[k]'(by rw [HN.out]; exact hlt) = L at *
      obtain ⟨nl, hnl⟩ : ∃ nl, L.length = nl := ⟨_, rfl⟩
      rw [hnl] at hcell hci
      have HNL := Lib.hid hnl
      clear hnl
      have hbw : Below w.heap.size w wr := by obtain ⟨_, _, _, _, _, _, h⟩ := hrs; exact h.2.2.2.2.2.2.2.2.2.2.2
      have hbx : Bs wr w.heap.size X ds := hX.below hbw
      have hcw : wr.cell? ⟨b, off + k, none⟩ = some (.slice Ai nl ci) := (World.cell?_of_block (a := ⟨b, off + k, none⟩) (hbw.block b hbl)).trans hcell
      have hblr : b < wr.heap.size := Nat.lt_of_lt_of_le hbl hbw.size
      obtain ⟨cnd, hcnd⟩ : ∃ cnd, (decide (k < m) && (ds.getD k 0 != 255)) = cnd := ⟨_, rfl⟩
      have HC := Lib.hid hcnd
      clear hcnd
      go_upto_region 11 with (fail)
      go_cut [49] from 29 to 118 (fun v wx => v = .bool cnd ∧ wx = wr)
      case first =>
        by_cases hkm : k < m
        · obtain ⟨b2, off2, rfl, hb2, hc2⟩ := hbx (by rw [HM.out]; omega)
          have hx := hc2 k (by rw [HM.out]; exact hkm)
          have hcv : (ds.getD k 0 != 255) = cnd := by rw [← HC.out, decide_eq_true hkm]; rfl
          have hne : ((((ds.getD k 0).toNat : Nat) : Int) != 255) = cnd := by
            rw [← hcv, Bool.eq_iff_iff]
            simp only [bne_iff_ne, ne_eq]
            constructor
            · intro h e; exact h (by rw [e]; rfl)
            · intro h e; exact h (by apply UInt8.toNat_inj.1; have : (ds.getD k 0).toNat = 255 := by omega
                                     rw [this]; rfl)
          generalize ds.getD k 0 = dv at *
          have HNE := Lib.hid hne
          clear hcv hne hc2
          go_wp2_with fail
          go_meet
          exact ⟨by rw [HNE.out], rfl⟩
        · obtain rfl : cnd = false := by rw [← HC.out, decide_eq_false hkm]; rfl
          go_wp2_with fail
          go_meet
          exact ⟨rfl, rfl⟩
      case rest =>
        obtain ⟨rfl, hwc⟩ := hcut
        subst hwc
        go_upto_if 49 with (fail)
        go_cut [] from 29 to 118 (fun wx => ∃ (d' : Dsk) (q' p' : Option Nat), RS w wx g hh (hh + 1) (hh + 1 + 1) t d' d' q' p')
        case first =>
          cases cnd
          · go_wp2_with fail
            go_meet
            exact ⟨d, q, p, hrs⟩
          · have hkm : k < m := by
              have h := HC.out
              rw [Bool.and_eq_true] at h
              exact of_decide_eq_true h.1
            obtain ⟨b2, off2, rfl, hb2, hc2⟩ := hX (by rw [HM.out]; omega)
            have hx0 := hc2 k (by rw [HM.out]; exact hkm)
            have hx := (World.cell?_of_block (a := ⟨b2, off2 + k, none⟩) (hbw.block b2 hb2)).trans hx0
            have hdv := (ds.getD k 0).toNat_lt
            generalize ds.getD k 0 = dv at *
            have hw1 : IntKind.i64.wrap (dv.toNat : Int) = (dv.toNat : Int) := IntWalk.i64_in _ (by omega)
            clear hc2
            obtain ⟨A1, n1, c1, A2, n2, c2, hd, hr, _⟩ := id hrs
            go_wp2_with fail
            refine (doom_any w.heap.size g q d (dv.toNat : Int) wc hd).mono ?_
            rintro e w5 ⟨q5, rfl, d5, t5, m5⟩
            have hrs5 := hrs.left d5 t5 m5
            have hb5 : Below w.heap.size w w5 := by obtain ⟨_, _, _, _, _, _, h⟩ := hrs5; exact h.2.2.2.2.2.2.2.2.2.2.2
            obtain ⟨A1', n1', c1', A2', n2', c2', hd5, hr5, _⟩ := id hrs5
            have hx5 := (World.cell?_of_block (a := ⟨b2, off2 + k, none⟩) (hb5.block b2 hb2)).trans hx0
            go_wp2_with fail
            refine (rdoom_any w.heap.size hh p d (dv.toNat : Int) w5 hr5).mono ?_
            rintro e w6 ⟨p6, rfl, r6, t6, m6⟩
            have hrs6 := hrs5.right r6 t6 m6
            go_wp2_with fail
            go_meet
            exact ⟨_, q5, p6, hrs6⟩
        case rest =>
          obtain ⟨d1, q1, p1, hrs1⟩ := hcut
          clear hrs hcw hblr hbx hbw
          have hbw : Below w.heap.size w wc := by obtain ⟨_, _, _, _, _, _, h⟩ := hrs1; exact h.2.2.2.2.2.2.2.2.2.2.2
          have hcw : wc.cell? ⟨b, off + k, none⟩ = some (.slice Ai nl ci) := (World.cell?_of_block (a := ⟨b, off + k, none⟩) (hbw.block b hbl)).trans hcell
          have hblr : b < wc.heap.size := Nat.lt_of_lt_of_le hbl hbw.size
          have hrcw : Rc wc (fun b => b < w.heap.size) Ai L := hrc.keep hbw.size fun b' hf _ => hbw.block b' hf
          have hbs := hbw.size
          go_wp2_with fail
          refine (records_any (fun b' => b' < w.heap.size) L Ai nl ci wc (fun b' h => Nat.lt_of_lt_of_le h hbs) HNL.out hci hcim hrcw).mono ?_
          rintro e w7 ⟨A7, n7, c7, rfl, o7, b7⟩
          have hrs7 := hrs1.step b7
          have hL30 : (recsOf L).length ≤ 30 := by unfold recsOf; rw [List.length_map, List.length_take]; omega
          have hLx : ∀ r ∈ recsOf L, r.x.length ≤ 1000000 := by
            intro r hr
            unfold recsOf at hr
            rw [List.mem_map] at hr
            obtain ⟨y, _, rfl⟩ := hr
            show (y.x.take 250).length ≤ 1000000
            rw [List.length_take]; omega
          have r7 := o7.rc (F' := FrS w7 g hh (hh + 1) (hh + 1 + 1) q1 p1) (fun b' h hlt => hrs1.fresh b7.size b' hlt (.inl h)) (fun b' h hlt => hrs1.fresh b7.size b' hlt (.inr h))
          have hn7 := o7.1
          have hc7 := o7.cap
          rw [hn7] at hL30
          clear hrs1 hcw hblr hrcw hrc hcell hbl o7 b7 hbw hbs
          generalize recsOf L = L' at *
          have HL7 := Lib.hid hn7
          have HLX := Lib.hid hLx
          clear hn7 hLx
          have hsep := Lib.hid hrs7.sep
          obtain ⟨A1, n1, c1, A2, n2, c2, hd, hr, hqp, ks, kt, s1, s2, hlen, hst, hz1, hz2, hb7⟩ := hrs7
          obtain ⟨t', e', d', hsv⟩ : ∃ a b c, sSave d1 t L' = (a, b, c) := ⟨_, _, _, rfl⟩
          have hlen' : t'.log.length ≤ 70 := by have := sSave_len d1 t L' hlen; rw [hsv] at this; exact this
          have HSV := Lib.hid hsv
          clear hsv
          have hn1 : n1 ≤ 70 := by rw [← s1.1]; exact hlen
          have hn2 : n2 ≤ 70 := by rw [← s2.1]; exact hlen
          have y0 := ks.cell 0
          have y1 := ks.cell 1
          have y2 := ks.cell 2
          have y3 := ks.cell 3
          have hlz := ks.lt
          simp only [List.getElem?_toArray, List.getElem?_cons_zero, List.getElem?_cons_succ] at y0 y1 y2 y3
          have hbz7 := hb7.size
          go_wp2_with fail
          refine (save_any w.heap.size g q1 d1 (FrS w7 g hh (hh + 1) (hh + 1 + 1) q1 p1) t A1 n1 c1 L' A7 n7 c7 w7 (fun b' h => ⟨h.1, h.2.1, h.2.2.2.2.2.1⟩) hd hbz7 s1 hn1 HL7.out hL30 hc7.1 r7 HLX.out).mono ?_
          rintro e w8 ⟨A8, n8, c8, q8, rfl, s8, d8, t8, m8⟩
          rw [HSV.out] at s8 d8 ⊢
          simp only at s8 d8 ⊢
          unfold stV
          have ba := (Below.refl w8.heap.size w8).alloc (Nat.le_refl _) (.cells (stCs t' A8 n8 c8) TSt)
          have k12 := Blk.new w8 TSt (stCs t' A8 n8 c8)
          have hs := hsep.out
          have ks9 := (ks.touch t8 hs.sg hs.qs.symm).below ba (ks.touch t8 hs.sg hs.qs.symm).lt
          have kt9 := (kt.touch t8 hs.tg hs.qt.symm).below ba (kt.touch t8 hs.tg hs.qt.symm).lt
          have hr9 := (hr.kept t8 hs.gh.symm hs.qh.symm hs.pg (fun k hk e => hs.qp k e hk)).step ba
          have s29 := (s2.touch t8 (fun b' h _ => ⟨h.2.1, h.2.2.2.2.2.1⟩)).step ba
          have r9 : Rc (w8.alloc (.cells (stCs t' A8 n8 c8) TSt)) (FrS w7 g hh (hh + 1) (hh + 1 + 1) q1 p1) A7 L' := (r7.keep t8.size fun b' hf hlt => t8.block b' hlt hf.2.1 hf.2.2.2.2.2.1).step ba
          have d89 := d8.step ba
          have hbw8 : Below w.heap.size w w8 := Touch.below hb7 t8 hd.ge hd.qge
          have hbw9 := hbw8.trans (ba.mono hbw8.size)
          have s89 := (s8.mono (F' := fun b' => ((FrS w7 g hh (hh + 1) (hh + 1 + 1) q1 p1 b' ∨ w7.heap.size ≤ b') ∧ some b' ≠ q8) ∧ b' < w8.heap.size) (fun b' h hlt => ⟨h, hlt⟩)).step ba
          have hsz8 := t8.size
          have hsz9 : (w8.alloc (.cells (stCs t' A8 n8 c8) TSt)).heap.size = w8.heap.size + 1 := by simp
          have hq8l := d8.q_lt
          have z0 := kt9.cell 0
          have z1 := kt9.cell 1
          have z2 := kt9.cell 2
          have z3 := kt9.cell 3
          have hlz2 := kt9.lt
          simp only [List.getElem?_toArray, List.getElem?_cons_zero, List.getElem?_cons_succ] at z0 z1 z2 z3
          clear y0 y1 y2 y3 hlz ks kt s1 s2 hd hr r7 s8 d8 t8 hbw8 ba hb7 hs
          unfold stCs at k12 ks9 kt9 hr9 s29 r9 d89 hbw9 s89 hsz9 z0 z1 z2 z3 hlz2
          go_wp2_with fail
          generalize w8.alloc (.cells #[.int .i64 t'.floor, .int .i64 t'.term, .int .i64 t'.vote, .slice A8 n8 c8] TSt) = w9 at *
          have h12 : w8.heap.size < w9.heap.size := k12.lt
          generalize w8.heap.size = g12 at *
          refine (rsave_any w.heap.size hh p1 d1 (FrS w7 g hh (hh + 1) (hh + 1 + 1) q1 p1) t A2 n2 c2 L' A7 n7 c7 w9 (fun b' h => ⟨by have := h.1; omega, h.2.2.1, h.2.2.2.2.2.2⟩) hr9 (by omega) s29 hn2 HL7.out hL30 hc7.1 r9 HLX.out).mono ?_
          rintro e w10 ⟨A10, n10, c10, p10, rfl, s10, r10, t10, m10⟩
          rw [HSV.out] at s10 r10 ⊢
          simp only at s10 r10 ⊢
          have hs := hsep.out
          have ba := (Below.refl w10.heap.size w10).alloc (Nat.le_refl _) (.cells (stCs t' A10 n10 c10) TSt)
          have k14 := Blk.new w10 TSt (stCs t' A10 n10 c10)
          have hl9 : w7.heap.size ≤ w9.heap.size := by omega
          have hsz10 := t10.size
          have hpl : ∀ k, p1 = some k → k < w7.heap.size := hs.pl
          have hql : ∀ k, q1 = some k → k < w7.heap.size := hs.ql
          have h12p : some g12 ≠ p1 := fun e => by have := hpl _ e.symm; omega
          have h12h : g12 ≠ hh := by have := hs.hl; omega
          have k12a := (k12.touch t10 h12h h12p).below ba (k12.touch t10 h12h h12p).lt
          have ks11 := (ks9.touch t10 hs.sh hs.ps.symm).below ba (ks9.touch t10 hs.sh hs.ps.symm).lt
          have kt11 := (kt9.touch t10 hs.th hs.pt.symm).below ba (kt9.touch t10 hs.th hs.pt.symm).lt
          have hq8h : q8 ≠ some hh := fun e => by
            rcases m8 with rfl | ⟨k9, rfl, hk9⟩
            · exact hs.qh e
            · injection e with e
              have := hs.hl
              omega
          have hq8p : ∀ k, q8 = some k → p1 ≠ some k := fun k hk e => by
            rcases m8 with rfl | ⟨k9, rfl, hk9⟩
            · exact hs.qp k hk e
            · injection hk with hk
              have := hpl k e
              omega
          have d11 := (d89.kept t10 hs.gh hs.pg.symm hq8h hq8p).step ba
          have r11 := r10.step ba
          have hbw10 : Below w.heap.size w w10 := Touch.below hbw9 t10 hr9.ge hr9.qge
          have hbw11 := hbw10.trans (ba.mono hbw10.size)
          have hsz11 : (w10.alloc (.cells (stCs t' A10 n10 c10) TSt)).heap.size = w10.heap.size + 1 := by simp
          have hp10 := r10.q_lt
          have e8 : StF (w10.alloc (.cells (stCs t' A10 n10 c10) TSt)) (fun b' => ((FrS w7 g hh (hh + 1) (hh + 1 + 1) q1 p1 b' ∨ w7.heap.size ≤ b') ∧ some b' ≠ q8) ∧ b' < g12) t' A8 n8 c8 := (s89.touch t10 (fun b' h _ => by
            rcases h.1.1 with h | h
            · exact ⟨h.2.2.1, h.2.2.2.2.2.2⟩
            · exact ⟨by have := hs.hl; omega, fun e => by have := hpl _ e.symm; omega⟩)).step ba
          have e10 : StF (w10.alloc (.cells (stCs t' A10 n10 c10) TSt)) (fun b' => ((FrS w7 g hh (hh + 1) (hh + 1 + 1) q1 p1 b' ∨ w9.heap.size ≤ b') ∧ some b' ≠ p10) ∧ b' < w10.heap.size) t' A10 n10 c10 := (s10.mono (F' := fun b' => ((FrS w7 g hh (hh + 1) (hh + 1 + 1) q1 p1 b' ∨ w9.heap.size ≤ b') ∧ some b' ≠ p10) ∧ b' < w10.heap.size) (fun b' h hlt => ⟨h, hlt⟩)).step ba
          have f8 := e8.mono (F' := FrS (w10.alloc (.cells (stCs t' A10 n10 c10) TSt)) g hh (hh + 1) (hh + 1 + 1) q8 p10) fun b' h hlt => by
            refine ⟨hlt, ?_⟩
            rcases h.1.1 with k | k
            · refine ⟨k.2.1, k.2.2.1, k.2.2.2.1, k.2.2.2.2.1, h.1.2, ?_⟩
              rcases m10 with rfl | ⟨k9, rfl, hk9⟩
              · exact k.2.2.2.2.2.2
              · intro e; injection e with e; have := k.1; omega
            · refine ⟨by have := hs.gl; omega, by have := hs.hl; omega, by have := hs.sl; omega, by have := hs.tl; omega, h.1.2, ?_⟩
              rcases m10 with rfl | ⟨k9, rfl, hk9⟩
              · intro e; have := hpl _ e.symm; omega
              · intro e; injection e with e; have := h.2; omega
          have f10 := e10.mono (F' := FrS (w10.alloc (.cells (stCs t' A10 n10 c10) TSt)) g hh (hh + 1) (hh + 1 + 1) q8 p10) fun b' h hlt => by
            refine ⟨hlt, ?_⟩
            rcases h.1.1 with k | k
            · refine ⟨k.2.1, k.2.2.1, k.2.2.2.1, k.2.2.2.2.1, ?_, h.1.2⟩
              rcases m8 with rfl | ⟨k9, rfl, hk9⟩
              · exact k.2.2.2.2.2.1
              · intro e; injection e with e; have := k.1; omega
            · refine ⟨by have := hs.gl; omega, by have := hs.hl; omega, by have := hs.sl; omega, by have := hs.tl; omega, ?_, h.1.2⟩
              intro e; have := (hq8l _ e.symm).2.1; omega
          have hqp10 : ∀ k, q8 = some k → p10 ≠ some k := fun k hk e => by
            rcases m10 with rfl | ⟨k9, rfl, hk9⟩
            · exact hq8p k hk e
            · injection e with e
              have := (hq8l k hk).2.1
              omega
          have hn8 := e8.1
          have hn10 := e10.1
          obtain rfl : n8 = n10 := by omega
          clear s10 r10 k12 ks9 kt9 hr9 s29 r9 d89 hbw9 s89 z0 z1 z2 z3 hlz2 hbw10 ba e8 e10 t10
          have y0 := k12a.cell 0
          have y1 := k12a.cell 1
          have y2 := k12a.cell 2
          have y3 := k12a.cell 3
          have z0 := k14.cell 0
          have z1 := k14.cell 1
          have z2 := k14.cell 2
          have z3 := k14.cell 3
          simp only [List.getElem?_toArray, List.getElem?_cons_zero, List.getElem?_cons_succ] at y0 y1 y2 y3 z0 z1 z2 z3
          have hl12 := k12a.lt
          have hl14 := k14.lt
          unfold stCs at k14 k12a ks11 kt11 d11 r11 hbw11 hsz11 f8 f10 y0 y1 y2 y3 z0 z1 z2 z3 hl12 hl14
          unfold stV
          go_wp2_with fail
          generalize w10.alloc (.cells #[.int .i64 t'.floor, .int .i64 t'.term, .int .i64 t'.vote, .slice A10 n8 c10] TSt) = w11 at *
          generalize w10.heap.size = g14 at *
          refine (same_any _ _ t' t' A8 A10 n8 c8 n8 c10 _ (by omega) (by omega) f8 f10).mono ?_
          rintro e w12 ⟨rfl, b12⟩
          rw [show decide (t' = t') = true from decide_eq_true rfl]
          have k12b := k12a.below b12 k12a.lt
          have k14b := k14.below b12 k14.lt
          have ks12 := ks11.below b12 ks11.lt
          have kt12 := kt11.below b12 kt11.lt
          have d12 := d11.step b12
          have r12 := r11.step b12
          have f812 := (f8.step b12).mono fun b' h _ => h.step b12.size
          have f1012 := (f10.step b12).mono fun b' h _ => h.step b12.size
          have hbw12 := hbw11.trans (b12.mono hbw11.size)
          have hsz12 := b12.size
          clear k14 k12a ks11 kt11 d11 r11 hbw11 hsz11 f8 f10 y0 y1 y2 y3 z0 z1 z2 z3 hl12 hl14 b12 hsz9 hq8h hq8p
          obtain ⟨hrg, hrok, A13, n13, c13, hp13, hrb, hro⟩ := id r12
          have hro1 := hro.1
          have hrok1 := hrok.1
          have hrl := hrb.lt
          go_upto_region 18 with (fail)
          refine wp_region_inv (by kernel_rfl) [.val (.bool true), .val (.bool false), .val (.bool false), .val (.int .i64 e'), .val (.int .i64 e'), .val (.bool false), .val (.bool false), .val (.bool false), .val (.pointer (some ⟨g, 0, none⟩)), .bs d'.b, .val (.string (strOf d'.b)), .val (.pointer (some ⟨hh, 0, none⟩)), .val (.pointer (some ⟨hh, 0, none⟩)), .val (.pointer (some ⟨hh, 0, none⟩)), .val (.slice A13 n13 c13), .val (.string (strOf d'.b)), .val (.bool false), .val (.bool false), .val (.bool false), .val (.pointer (some ⟨g, 0, none⟩)), .val (.int .i64 (d'.syn : Nat)), .val (.pointer (some ⟨hh, 0, none⟩)), .val (.pointer (some ⟨hh, 0, none⟩)), .val (.pointer (some ⟨hh, 1, none⟩)), .val (.int .i64 (d'.syn : Nat)), .val (.bool false), .val (.bool false)] (T := ?T18) (by kernel_rfl) (by kernel_rfl) ?hT18 ?hask18 ?hend18
          case hT18 =>
            intro vs
            simp only [fill, Act.put, List.setIfInBounds_toArray, List.set_cons_succ, List.set_cons_zero, Nat.reduceAdd]
            exact rfl
          case hask18 =>
            iterate 9 (refine askI_cons (fun vs w1 hb hd => ?_) ?_; (focus (simp only [DepI, Region.binds, SlI, List.getD_cons_zero, List.getD_cons_succ, Sl.val, Sl.bs, and_true] at hd; go_simp; exact gives_pure rfl)))
            refine askI_cons (fun vs w1 hb hd => ?_) ?_
            · simp only [DepI, Region.binds, SlI, List.getD_cons_zero, List.getD_cons_succ, Sl.val, Sl.bs, and_true] at hd
              go_simp
              refine gives_enter ((bytes_any w.heap.size g q8 d' _ (d12.step hb)).mono ?_)
              rintro e w2' ⟨P, n2', c2', rfl, o2, f2⟩
              exact ⟨_, rfl, f2, P, _, c2', rfl, o2.1, o2.cap.1, o2.cap.2, o2.bs⟩
            refine askI_cons (fun vs w1 hb hd => ?_) ?_
            · obtain ⟨A1, n1, c1, h1, h2, h3, h4, h5⟩ := hd.1
              have h6 := conv (c := c1) h2 h5
              clear h2 h3 h4 h5
              simp only [DepI, Region.binds, SlI, List.getD_cons_zero, List.getD_cons_succ, Sl.val, Sl.bs, and_true] at hd
              go_simp
              exact gives_pure rfl
            iterate 3 (refine askI_cons (fun vs w1 hb hd => ?_) ?_; (focus (simp only [DepI, Region.binds, SlI, List.getD_cons_zero, List.getD_cons_succ, Sl.val, Sl.bs, and_true] at hd; go_simp; exact gives_pure rfl)))
            refine askI_cons (fun vs w1 hb hd => ?_) ?_
            · have c0 := (hrb.below hb hrl).cell 0
              have hl0 := (hrb.below hb hrl).lt
              simp only [dCells, List.getElem?_toArray, List.getElem?_cons_zero, List.getElem?_cons_succ] at c0
              simp only [DepI, Region.binds, SlI, List.getD_cons_zero, List.getD_cons_succ, Sl.val, Sl.bs, and_true] at hd
              go_simp
              exact gives_pure rfl
            refine askI_cons (fun vs w1 hb hd => ?_) ?_
            · have h6 := conv (c := c13) hro1 (hro.step hb).bs
              simp only [DepI, Region.binds, SlI, List.getD_cons_zero, List.getD_cons_succ, Sl.val, Sl.bs, and_true] at hd
              go_simp
              exact gives_pure rfl
            iterate 4 (refine askI_cons (fun vs w1 hb hd => ?_) ?_; (focus (simp only [DepI, Region.binds, SlI, List.getD_cons_zero, List.getD_cons_succ, Sl.val, Sl.bs, and_true] at hd; go_simp; exact gives_pure rfl)))
            refine askI_cons (fun vs w1 hb hd => ?_) ?_
            · simp only [DepI, Region.binds, SlI, List.getD_cons_zero, List.getD_cons_succ, Sl.val, Sl.bs, and_true] at hd
              go_simp
              refine gives_enter ((synced_any w.heap.size g q8 d' _ (d12.step hb)).mono ?_)
              rintro e w2' ⟨rfl, rfl⟩
              exact ⟨_, rfl, Below.refl _ _, rfl⟩
            iterate 3 (refine askI_cons (fun vs w1 hb hd => ?_) ?_; (focus (simp only [DepI, Region.binds, SlI, List.getD_cons_zero, List.getD_cons_succ, Sl.val, Sl.bs, and_true] at hd; go_simp; exact gives_pure rfl)))
            refine askI_cons (fun vs w1 hb hd => ?_) ?_
            · have c0 := (hrb.below hb hrl).cell 1
              have hl0 := (hrb.below hb hrl).lt
              simp only [dCells, List.getElem?_toArray, List.getElem?_cons_zero, List.getElem?_cons_succ] at c0
              simp only [DepI, Region.binds, SlI, List.getD_cons_zero, List.getD_cons_succ, Sl.val, Sl.bs, and_true] at hd
              go_simp
              exact gives_pure rfl
            iterate 2 (refine askI_cons (fun vs w1 hb hd => ?_) ?_; (focus (simp only [DepI, Region.binds, SlI, List.getD_cons_zero, List.getD_cons_succ, Sl.val, Sl.bs, and_true] at hd; go_simp; exact gives_pure rfl)))
            exact askI_nil
          case hend18 =>
            intro vs w1 hb hd
            simp only [AllI, SlI, List.getD_cons_zero, List.getD_cons_succ, Sl.val, Sl.bs, and_true, Nat.reduceAdd] at hd
            have hlast := hd.2.2.2.2.2.2.2.2.2.2.2.2.2.2.2.2.2.2.2.2.2.2.2.2.2.2
            clear hd
            rw [hlast]
            have k12c := k12b.below hb k12b.lt
            have k14c := k14b.below hb k14b.lt
            have ks13 := ks12.below hb ks12.lt
            have kt13 := kt12.below hb kt12.lt
            have d13 := d12.step hb
            have r13 := r12.step hb
            have f813 := (f812.step hb).mono fun b' h _ => h.step hb.size
            have f1013 := (f1012.step hb).mono fun b' h _ => h.step hb.size
            have hbw13 := hbw12.trans (hb.mono hbw12.size)
            have y0 := k12c.cell 0
            have y1 := k12c.cell 1
            have y2 := k12c.cell 2
            have y3 := k12c.cell 3
            have z0 := k14c.cell 0
            have z1 := k14c.cell 1
            have z2 := k14c.cell 2
            have z3 := k14c.cell 3
            have x0 := ks13.cell 0
            have x1 := ks13.cell 1
            have x2 := ks13.cell 2
            have x3 := ks13.cell 3
            have u0 := ks13.free 0
            have u1 := ks13.free 1
            have u2 := ks13.free 2
            have u3 := ks13.free 3
            have a0 := kt13.cell 0
            have a1 := kt13.cell 1
            have a2 := kt13.cell 2
            have a3 := kt13.cell 3
            have v0 := kt13.free 0
            have v1 := kt13.free 1
            have v2 := kt13.free 2
            have v3 := kt13.free 3
            simp only [List.getElem?_toArray, List.getElem?_cons_zero, List.getElem?_cons_succ] at y0 y1 y2 y3 z0 z1 z2 z3 x0 x1 x2 x3 a0 a1 a2 a3
            have hl12 := k12c.lt
            have hl14 := k14c.lt
            have hlz1 := ks13.lt
            have hlz2 := kt13.lt
            have s13 := sep_of d13 r13 hqp10 ks13 kt13 hst
            have hfz1 : ¬ FrS w1 g hh (hh + 1) (hh + 1 + 1) q8 p10 (hh + 1) := fun h => h.2.2.2.1 rfl
            have hfz2 : ¬ FrS w1 g hh (hh + 1) (hh + 1 + 1) q8 p10 (hh + 1 + 1) := fun h => h.2.2.2.2.1 rfl
            have hrs : RS w (set4 (set4 w1 (hh + 1) t' A8 n8 c8) (hh + 1 + 1) t' A10 n8 c10) g hh (hh + 1) (hh + 1 + 1) t' d' d' q8 p10 :=
              ⟨A8, n8, c8, A10, n8, c10, set4_dk (set4_dk d13 s13.sg.symm s13.qs) s13.tg.symm s13.qt, set4_rk (set4_rk r13 s13.sh.symm s13.ps) s13.th.symm s13.pt, hqp10, set4_far (set4_blk ks13) s13.st, set4_blk (set4_far kt13 s13.st.symm),
                (set4_stf (set4_stf f813 hfz1) hfz2).mono fun b' h _ => h.step (by rw [set4_size, set4_size]; exact Nat.le_refl _), (set4_stf (set4_stf f1013 hfz1) hfz2).mono fun b' h _ => h.step (by rw [set4_size, set4_size]; exact Nat.le_refl _), hlen', hst, hz1, hz2, set4_below (set4_below hbw13 hz1) hz2⟩
            have h12z : ¬ g12 = hh + 1 := by have := hsep.out.sl; omega
            have h14z : ¬ g14 = hh + 1 := by have := hsep.out.sl; omega
            have h14z2 : ¬ g14 = hh + 1 + 1 := by have := hsep.out.tl; omega
            have hdx := hrs
            unfold set4 at hdx
            obtain ⟨_, _, _, _, _, _, hdd, _⟩ := hdx
            clear k12b k14b ks12 kt12 d12 r12 f812 f1012 hbw12 hro hrb hro1 hrok1 hrl hlast d13 r13 f813 f1013 ks13 kt13 k12c k14c s13
            go_wp2_with fail
            refine (up_any w.heap.size g q8 d' _ hdd).mono ?_
            rintro e w14 ⟨q14, rfl, d14, t14, m14⟩
            have hrs14 := hrs.left d14 t14 m14
            have hdx := hrs14
            obtain ⟨_, _, _, _, _, _, _, hrr, _⟩ := hdx
            clear hrs hdd t14 m14 d14 y0 y1 y2 y3 z0 z1 z2 z3 x0 x1 x2 x3 u0 u1 u2 u3 a0 a1 a2 a3 v0 v1 v2 v3
            go_wp2_with fail
            refine (rup_any w.heap.size hh p10 d' w14 hrr).mono ?_
            rintro e w15 ⟨p15, rfl, r15, t15, m15⟩
            have hrs15 := hrs14.right r15 t15 m15
            clear hrs14 hrr r15 t15 m15
            go_wp2_with fail
            go_roundw
            case rel =>
              exact ⟨k + 1, t', (dUp d').1, q14, p15, by go_num, by omega, by omega, hrs15⟩
            case measure => simp [intOf]; omega
    · have hbw : Below w.heap.size w wr := by obtain ⟨_, _, _, _, _, _, h⟩ := hrs; exact h.2.2.2.2.2.2.2.2.2.2.2
      by_cases hkn : k < n
      · obtain rfl : k = 6 := by omega
        go_wp2_with fail
        go_ret
        exact ⟨rfl, hbw⟩
      · obtain rfl : k = n := by omega
        go_wp2_with fail
        go_ret
        exact ⟨rfl, hbw⟩
end Go.Proofs.Ytcgkoojegopfnaa

namespace Go.Proofs.Ytcgkoojegopfnaa.storeSaves
open Go.ChangeShapes Go.WideShapes Go.ChangeAt Go.RowKit
open Go.ChangeMaps (open_string shut_string)
set_option linter.unusedVariables false

theorem own : ownKnob Try.prog.godebug = none := by kernel_rfl
theorem laidOut : laidOutB Try.prog = true := by kernel_rfl

set_option maxRecDepth 100000 in
theorem lifted (os : Os) (started : os.Started) (H : Type) (enc : TypeId × Value → H) :
    ReturnsInHanded {} Try.checked os 10 .any (Rows.storeSavesSpec.pre6 enc Try.prog Try.f10 Rows.storeSavesRow.domain false) (Rows.storeSavesSpec.post enc Try.prog Try.f10 false true false false) := by
  refine returnsInHanded_of_change (C := Try.checked) own started (by kernel_rfl) Try.func10
    (ChangeSpec.witness6 (enc := enc) (C := Try.checked) false ⟨#[], #[.slice none 0 0, .slice none 0 0], []⟩ 8 (by kernel_rfl) (by kernel_rfl) (by kernel_rfl) (by kernel_rfl)) ?_
  intro W base args ds gs before hval0 hW hcnd _
  have hval : ∀ (j : Nat) t v, Try.f10.params[j]? = some t → args[j]? = some v → Value.okWide Try.prog W .any base t v := hval0
  have hW' := hW
  obtain ⟨p, q, hA0, hV, rfl, hfz, hnd⟩ := hW
  have hA : DataW.TrodAll enc Try.prog W 0 (fun _ => true) true Try.f10.params.toList args.toList ds p := hA0
  rw [Try.params10] at hA hval
  obtain ⟨v0, vs0, d0, ds0, p0, q0, hargs, rfl, rfl, h0, r0⟩ := trodAll_cons hA
  obtain ⟨v1, vs1, d1, ds1, p1, q1, rfl, rfl, rfl, h1, r1⟩ := trodAll_cons r0
  obtain ⟨rfl, rfl, rfl⟩ := trodAll_nil r1
  obtain rfl : args = #[v0, v1] := by cases args; simp_all
  obtain ⟨rfl, rfl⟩ := trodVars_none hV
  obtain ⟨a0, len0, cap0, rfl⟩ := okWide_slice Try.underlying66 (hval 0 66 v0 rfl rfl)
  have k0 := h0
  have lt0 : ∀ x ∈ p0, x.block < W.heap.size := by obtain ⟨m, hm⟩ := k0; exact DataW.trod_lt m _ _ _ hm
  obtain ⟨l0, hl0, hlc0, hm0, w0⟩ := open_rcss Try.underlying66 (by kernel_rfl) Try.underlying62 Try.underlying50 (by kernel_rfl) (by kernel_rfl) rfl rfl rfl rfl Try.underlying3 Try.underlying22 Try.underlying5 (by kernel_rfl) h0
  obtain ⟨a1, len1, cap1, rfl⟩ := okWide_slice Try.underlying22 (hval 1 22 v1 rfl rfl)
  have k1 := h1
  have lt1 : ∀ x ∈ p1, x.block < W.heap.size := by obtain ⟨m, hm⟩ := k1; exact DataW.trod_lt m _ _ _ hm
  obtain ⟨l1, hl1, hlc1, hm1, w1⟩ := open_bs Try.underlying22 Try.underlying5 (by kernel_rfl) h1
  clear hA0 hval0
  refine (storeSaves_walk W a0 l0 len0 cap0 hl0 hlc0 hm0 w0 a1 l1 len1 cap1 hl1 hlc1 hm1 w1).mono fun e W' ⟨he, bel⟩ => ?_
  subst he
  exact ⟨_, rfl, _, _, _, [], _, [], hW', trodAll_mk1 (shut_bool Try.underlying4 _), (trodAll_cons_mk (Below.trod laidOut (by kernel_rfl) (of_decide_eq_true (by kernel_rfl)) k0 bel lt0) (trodAll_cons_mk (Below.trod laidOut (by kernel_rfl) (of_decide_eq_true (by kernel_rfl)) k1 bel lt1) trodAll_mk0)), rfl, bel.frame _, fun h => by cases h⟩

theorem over : Rows.storeSavesRow.holds Try.pinned (OpenSpec.ofChange Rows.storeSavesSpec) :=
  OpenClaim.holds_of_wide 10 Try.f10 rfl rfl rfl rfl rfl rfl rfl ⟨rfl, rfl, rfl, rfl, rfl⟩ rfl rfl rfl rfl rfl (by kernel_rfl) Try.func10 (by kernel_rfl)
    (of_decide_eq_true (by kernel_rfl)) (by unfold Func.isWrapper; first | (rw [if_pos (by decide +kernel)]; kernel_rfl) | (rw [if_neg (by decide +kernel)]; exact ⟨rfl, rfl⟩))
    (fun os started H enc _ => lifted os started H enc)

theorem proved : Rows.StoreSavesSaid := over
end Go.Proofs.Ytcgkoojegopfnaa.storeSaves
