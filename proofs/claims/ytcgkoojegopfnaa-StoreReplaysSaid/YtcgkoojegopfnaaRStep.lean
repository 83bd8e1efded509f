/- The walk of the document's Step (chapter 15). -/
import Derived.Test.YtcgkoojegopfnaaRPut
import Derived.Test.YtcgkoojegopfnaaStoSt
import Derived.Test.YtcgkoojegopfnaaSave
namespace Go.Proofs.Ytcgkoojegopfnaa
open Go.RowKit
set_option linter.unusedSimpArgs false
set_option linter.unusedVariables false

theorem OwnE.grownT {w w' : World} {base n c : Nat} {F : Nat → Prop} {A : Option Addr} {L : List Ent} {row : Option Nat} (h : OwnE w base F A n c L) (hg : w.grownBy w' row) (hr : NotT w row TE) (hF : ∀ b, F b → b < w.heap.size → some b ≠ row) : OwnE w' base F A n c L := by
  obtain ⟨h1, vs, h2, h3⟩ := h
  exact ⟨h1, vs, h2.keptT hg hr, fun j x hx => (h3 j x hx).keep hg.size fun b hf hlt => hg.block b hlt (hF b hf hlt)⟩

theorem stf_of {w : World} {base n c : Nat} {F : Nat → Prop} {A : Option Addr} {L : List Ent} {t : Stb} {B : Nat} (o : OwnE w base (fun b => F b ∧ b < B) A n c L) (ht : t.log = L) : StF w (fun b => F b ∨ base ≤ b) t A n c :=
  ⟨by rw [ht]; exact o.1, o.cap.1, o.cap.2, by rw [ht]; exact o.en (fun b hf _ => .inl hf.1) (fun b hb _ => .inr hb)⟩
/-- The exit that tells the state as it was. -/
theorem rstep_no {w w8 : World} {F : Nat → Prop} {s : Stb} {A : Option Addr} {n c z : Nat} {r : Rcd} {v : Int} (hst : sStep s r = (s, v)) (hF : ∀ b, F b → b < w.heap.size) (hz : w.heap.size ≤ z) (hs : StF w8 F s A n c) (hb : Below w.heap.size w w8) :
    StepR w F s r (.returned (.tuple #[.agg #[.int .i64 s.floor, .int .i64 s.term, .int .i64 s.vote, .slice A n c], .int .i64 v])) ((((w8.setCell ⟨z, 0, none⟩ (.int .i64 s.floor)).setCell ⟨z, 1, none⟩ (.int .i64 s.term)).setCell ⟨z, 2, none⟩ (.int .i64 s.vote)).setCell ⟨z, 3, none⟩ (.slice A n c)) := by
  have hn : ¬ F z := fun h => by have := hF _ h; omega
  refine ⟨A, n, c, by rw [hst]; rfl, ?_, (((hb.setCell hz _).setCell hz _).setCell hz _).setCell hz _⟩
  rw [hst]
  exact ((((hs.setN hn 0 _).setN hn 1 _).setN hn 2 _).setN hn 3 _).mono fun b h _ => .inl h
/-- The exit that tells the next one. -/
theorem rstep_yes {w w8 : World} {F : Nat → Prop} {s t : Stb} {A : Option Addr} {n c z : Nat} {r : Rcd} {FX : Nat → Prop} (hst : sStep s r = (t, 0)) (hF : ∀ b, F b → b < w.heap.size) (hz : w.heap.size ≤ z) (hs : StF w8 FX t A n c) (hX : ∀ b, FX b → b < w8.heap.size → b ≠ z ∧ (F b ∨ w.heap.size ≤ b)) (hb : Below w.heap.size w w8) :
    StepR w F s r (.returned (.tuple #[.agg #[.int .i64 t.floor, .int .i64 t.term, .int .i64 t.vote, .slice A n c], .int .i64 0])) ((((w8.setCell ⟨z, 0, none⟩ (.int .i64 t.floor)).setCell ⟨z, 1, none⟩ (.int .i64 t.term)).setCell ⟨z, 2, none⟩ (.int .i64 t.vote)).setCell ⟨z, 3, none⟩ (.slice A n c)) := by
  have hs' : StF w8 (fun b => b ≠ z ∧ (F b ∨ w.heap.size ≤ b)) t A n c := hs.mono hX
  have hn : ¬ (z ≠ z ∧ (F z ∨ w.heap.size ≤ z)) := fun h => h.1 rfl
  refine ⟨A, n, c, by rw [hst]; rfl, ?_, (((hb.setCell hz _).setCell hz _).setCell hz _).setCell hz _⟩
  rw [hst]
  exact ((((hs'.setN hn 0 _).setN hn 1 _).setN hn 2 _).setN hn 3 _).mono fun b h _ => h.2

set_option maxRecDepth 100000 in
set_option maxHeartbeats 3200000 in
theorem rstep_any (F : Nat → Prop) (s : Stb) (A : Option Addr) (n c : Nat) (r : Rcd) (X : Option Addr) (m cx : Nat) (w : World) (hF : ∀ b, F b → b < w.heap.size) (hs : StF w F s A n c) (hn : n ≤ 1000) (hm : r.x.length = m) (hmm : m ≤ 1000000) (hX : Bs w w.heap.size X r.x)
    (ha : -9223372036854775808 ≤ r.a ∧ r.a ≤ 9223372036854775807) (hb : -9223372036854775808 ≤ r.b ∧ r.b ≤ 9223372036854775807) :
    Calls Try.prog 55 #[.agg #[.int .i64 s.floor, .int .i64 s.term, .int .i64 s.vote, .slice A n c], .agg #[.int .i64 r.kind, .int .i64 r.a, .int .i64 r.b, .slice X m cx]] w (StepR w F s r) := by
  have HM := Lib.hid hm
  have HLN := Lib.hid hs.1
  have b1 := (Below.refl w.heap.size w).alloc (Nat.le_refl _) (.cells #[.int .i64 s.floor, .int .i64 s.term, .int .i64 s.vote, .slice A n c] TSt)
  have b2 := b1.alloc b1.size (.cells #[.int .i64 r.kind, .int .i64 r.a, .int .i64 r.b, .slice X m cx] TRec)
  have b3 := b2.alloc b2.size (.cells #[.int .i64 0, .int .i64 0, .int .i64 0, .slice none 0 0] TSt)
  have ks := ((Blk.new w TSt #[.int .i64 s.floor, .int .i64 s.term, .int .i64 s.vote, .slice A n c]).alloc (.cells #[.int .i64 r.kind, .int .i64 r.a, .int .i64 r.b, .slice X m cx] TRec)).alloc (.cells #[.int .i64 0, .int .i64 0, .int .i64 0, .slice none 0 0] TSt)
  have kr := (Blk.new (w.alloc (.cells #[.int .i64 s.floor, .int .i64 s.term, .int .i64 s.vote, .slice A n c] TSt)) TRec #[.int .i64 r.kind, .int .i64 r.a, .int .i64 r.b, .slice X m cx]).alloc (.cells #[.int .i64 0, .int .i64 0, .int .i64 0, .slice none 0 0] TSt)
  have kz := Blk.new ((w.alloc (.cells #[.int .i64 s.floor, .int .i64 s.term, .int .i64 s.vote, .slice A n c] TSt)).alloc (.cells #[.int .i64 r.kind, .int .i64 r.a, .int .i64 r.b, .slice X m cx] TRec)) TSt #[.int .i64 0, .int .i64 0, .int .i64 0, .slice none 0 0]
  rw [World.size_alloc] at kr
  rw [World.size_alloc, World.size_alloc] at kz
  have hs3 := hs.step b3
  have hX3 := hX.below b3
  clear hm hs b1 b2
  have c0 := kr.cell 0
  have c1 := kr.cell 1
  have c2 := kr.cell 2
  have c3 := kr.cell 3
  simp only [List.getElem?_toArray, List.getElem?_cons_zero, List.getElem?_cons_succ] at c0 c1 c2 c3
  have hlr := kr.lt
  go_enter Try.func55, Try.ntmps55
  go_wp2_with fail
  refine (rput15_any r X m cx _ HM.out hmm (hX3.more b3.size) ha hb).mono ?_
  rintro e w4 ⟨P, np, cp, rfl, oP, b4⟩
  have bw4 := b3.trans (b4.mono b3.size)
  have ks4 := ks.below b4 ks.lt
  have kr4 := kr.below b4 kr.lt
  have kz4 := kz.below b4 kz.lt
  have hs4 := hs3.step b4
  have hX4 := hX.below bw4
  have hl1 := ks4.lt
  have hl2 := kr4.lt
  have hl3 := kz4.lt
  clear ks kr kz hs3 hX3 oP b3 b4 c0 c1 c2 c3 hlr
  have s0 := ks4.cell 0
  have s1 := ks4.cell 1
  have s2 := ks4.cell 2
  have s3 := ks4.cell 3
  have y0 := kz4.cell 0
  have y1 := kz4.cell 1
  have y2 := kz4.cell 2
  have y3 := kz4.cell 3
  have z0 := kz4.free 0
  have z1 := kz4.free 1
  have z2 := kz4.free 2
  have z3 := kz4.free 3
  simp only [List.getElem?_toArray, List.getElem?_cons_zero, List.getElem?_cons_succ] at s0 s1 s2 s3 y0 y1 y2 y3
  have HF := Lib.hid hF
  clear hF
  cases hro : rOk r
  · have hrp : rPut r = ([], 1) := by unfold rPut; rw [hro]; rfl
    have HST := Lib.hid (show sStep s r = (s, 1) by unfold sStep; rw [hro]; rfl)
    rw [hrp]
    clear hrp hro
    go_wp2_with fail
    exact bodyPost_ret (v := .tuple #[.agg #[.int .i64 s.floor, .int .i64 s.term, .int .i64 s.vote, .slice A n c], .int .i64 1]) (by simp [results, Try.results55, go_sem, y0, y1, y2, y3, hl3]) rfl (rstep_no HST.out HF.out (by omega) hs4 bw4)
  · have hrp : rPut r = (rBytes r, 0) := by unfold rPut; rw [hro]; rfl
    have HST := Lib.hid (show sStep s r = (if stFit s r = true then (stNext s r, 0) else (s, 5)) by unfold sStep; rw [hro]; rfl)
    obtain ⟨q1, q2, q3, q4, -⟩ := rOk_spec hro
    obtain ⟨a1, a2, a3, a4, a5, -, -⟩ := rOk_bd hro
    have hra4 : r.kind = 4 → 1 ≤ r.a := fun h => by rw [h] at q3; exact q3
    have HRA := Lib.hid hra4
    rw [hrp]
    clear hrp hro hra4 q3 q4
    have bb := (Below.refl w4.heap.size w4).alloc (Nat.le_refl _) (.cells #[.int .i64 s.floor, .int .i64 s.term, .int .i64 s.vote, .slice A n c] TSt)
    have bb2 := bb.alloc bb.size (.cells #[] TE)
    have k8 := (Blk.new w4 TSt #[.int .i64 s.floor, .int .i64 s.term, .int .i64 s.vote, .slice A n c]).alloc (.cells #[] TE)
    have he := OwnE.empty (w := w4.alloc (.cells #[.int .i64 s.floor, .int .i64 s.term, .int .i64 s.vote, .slice A n c] TSt)) (base := w4.heap.size) (F := fun b => F b ∧ b < w.heap.size) bb.size
    rw [World.size_alloc] at he
    obtain ⟨vs, v1, v2, v3, v4⟩ := hs4.2.2.2.cells
    have v2' := (v2.below bb2).more bb2.size
    have v3' : ∀ i x, s.log[i]? = some x → EnAt ((w4.alloc (.cells #[.int .i64 s.floor, .int .i64 s.term, .int .i64 s.vote, .slice A n c] TSt)).alloc (.cells #[] TE)) (fun b => F b ∧ b < w.heap.size) vs i x := fun i x hx => ((v3 i x hx).mono (F' := fun b => F b ∧ b < w.heap.size) fun b hf hb => ⟨hf, HF.out b hf⟩).keep bb2.size fun b hf hb => bb2.block b (Nat.lt_of_lt_of_le hf.2 bw4.size)
    have V1 := Lib.hid (show vs.length = n * 2 by rw [v1, HLN.out])
    have V3 := Lib.hid v3'
    have V4 := Lib.hid v4
    have HF8 := Lib.hid (show ∀ b, (F b ∧ b < w.heap.size) → b < ((w4.alloc (.cells #[.int .i64 s.floor, .int .i64 s.term, .int .i64 s.vote, .slice A n c] TSt)).alloc (.cells #[] TE)).heap.size → some b ≠ (Value.slice (some ⟨w4.heap.size + 1, 0, none⟩) 0 0).ownBlock from fun b hf _ e => by
      have : b = w4.heap.size + 1 := by injection e
      have := bw4.size
      omega)
    have hbz : w4.heap.size ≤ ((w4.alloc (.cells #[.int .i64 s.floor, .int .i64 s.term, .int .i64 s.vote, .slice A n c] TSt)).alloc (.cells #[] TE)).heap.size := by simp; omega
    have kr5 := kr4.below bb2 hl2
    have ks5 := ks4.below bb2 hl1
    have kz5 := kz4.below bb2 hl3
    have hs5 := hs4.step bb2
    have bw5 := bw4.trans (bb2.mono bw4.size)
    clear v1 v2 v3 v3' v4 hs4 bb bb2
    have hln : s.log.length = n := HLN.out
    go_upto_region 5 with (fail)
    go_cut [] (fun wx => ∃ (A5 : Option Addr) (c5 : Nat), Blk wx w.heap.size TSt #[.int .i64 s.floor, .int .i64 s.term, .int .i64 s.vote, .slice A n c] ∧ Blk wx (w.heap.size + 1) TRec #[.int .i64 r.kind, .int .i64 r.a, .int .i64 r.b, .slice X m cx] ∧ Blk wx (w.heap.size + 1 + 1) TSt #[.int .i64 0, .int .i64 0, .int .i64 0, .slice none 0 0] ∧ Blk wx w4.heap.size TSt #[.int .i64 s.floor, .int .i64 s.term, .int .i64 s.vote, .slice A5 n c5] ∧ OwnE wx w4.heap.size (fun b => F b ∧ b < w.heap.size) A5 n c5 s.log ∧ StF wx F s A n c ∧ Below w.heap.size w wx)
    case first =>
      have hne8 : some w4.heap.size ≠ (Value.slice (some ⟨w4.heap.size + 1, 0, none⟩) 0 0).ownBlock := fun e => by
        have : w4.heap.size = w4.heap.size + 1 := by injection e
        omega
      go_wp2_with (at_builtin; go_loud (refine appE rfl (.tmp 20) (.tmp 22) rfl rfl he rfl HLN.out V1.out v2' V3.out V4.out (by omega) hbz HF8.out ?_; intro A5 c5 w5 o5 g5 hA5; rw [Nat.zero_add] at o5; simp only [List.nil_append] at o5; have k85 := k8.grown g5 hne8; have d3 := k85.cell 3; have e3 := k85.free 3; have hl8 := k85.lt; simp only [List.getElem?_toArray, List.getElem?_cons_zero, List.getElem?_cons_succ] at d3))
      have b5 := OwnE.below (he.mono bw4.size) bw5 g5
      have hw4 := bw4.size
      have hr : ∀ b, b ≤ w4.heap.size → some b ≠ (Value.slice (some ⟨w4.heap.size + 1, 0, none⟩) 0 0).ownBlock := fun b hb e => by
        have : b = w4.heap.size + 1 := by injection e
        omega
      have hnF8 : ¬ (F w4.heap.size ∧ w4.heap.size < w.heap.size) := fun h => by omega
      have hnF9 : ¬ F w4.heap.size := fun h => by have := HF.out _ h; omega
      have hs6 : StF w5 F s A n c := ⟨hs5.1, hs5.2.1, hs5.2.2.1, hs5.2.2.2.keep g5.size fun b hf hlt => g5.block b hlt (hr b (by have := HF.out b hf; omega))⟩
      go_meet
      exact ⟨A5, c5, (ks5.grown g5 (hr _ (by omega))).far (by show w.heap.size ≠ w4.heap.size; omega) _, (kr5.grown g5 (hr _ (by omega))).far (by show w.heap.size + 1 ≠ w4.heap.size; omega) _, (kz5.grown g5 (hr _ (by omega))).far (by show w.heap.size + 1 + 1 ≠ w4.heap.size; omega) _, k85.set 3 _, o5.setT k85 (by decide) hnF8 3 _, hs6.setN hnF9 3 _, b5.setCell (by show w.heap.size ≤ w4.heap.size; omega) _⟩
    case rest =>
      obtain ⟨A5, c5, ks6, kr6, kz6, k86, o6, hs6, b6⟩ := hcut
      have hX6 := hX.below b6
      have hw4 := bw4.size
      clear he k8 HF8 hbz kr5 ks5 kz5 hs5 bw5 v2' V1 V3 V4 hX4 ks4 kr4 kz4 s0 s1 s2 s3 y0 y1 y2 y3 z0 z1 z2 z3
      have hcap5 := o6.cap
      have hlz := kz6.lt
      have hl86 := k86.lt
      have s0 := ks6.cell 0
      have s1 := ks6.cell 1
      have s2 := ks6.cell 2
      have s3 := ks6.cell 3
      have r0 := kr6.cell 0
      have r1 := kr6.cell 1
      have r2 := kr6.cell 2
      have r3 := kr6.cell 3
      have y0 := kz6.cell 0
      have y1 := kz6.cell 1
      have y2 := kz6.cell 2
      have y3 := kz6.cell 3
      have z0 := kz6.free 0
      have z1 := kz6.free 1
      have z2 := kz6.free 2
      have z3 := kz6.free 3
      have d0 := k86.cell 0
      have d1 := k86.cell 1
      have d2 := k86.cell 2
      have d3 := k86.cell 3
      have e0 := k86.free 0
      have e1 := k86.free 1
      have e2 := k86.free 2
      have e3 := k86.free 3
      simp only [List.getElem?_toArray, List.getElem?_cons_zero, List.getElem?_cons_succ] at s0 s1 s2 s3 r0 r1 r2 r3 y0 y1 y2 y3 d0 d1 d2 d3
      have hn8F : ∀ b, F b → b ≠ w4.heap.size := fun b h e => by have := HF.out b h; omega
      have HN8 := Lib.hid hn8F
      clear hn8F
      obtain ⟨rk, ra, rb, rx⟩ := r
      simp only at * -- MARK
      have hnF8 : ¬ (F w4.heap.size ∧ w4.heap.size < w.heap.size) := fun h => by omega
      have hnF9 : ¬ F w4.heap.size := fun h => by have := HF.out _ h; omega
      have hZX : ∀ b, (F b ∨ w4.heap.size ≤ b) → b ≠ w.heap.size + 1 + 1 ∧ (F b ∨ w.heap.size ≤ b) := fun b h => by
        rcases h with h | h
        · exact ⟨by have := HF.out b h; omega, .inl h⟩
        · exact ⟨by omega, .inr (by omega)⟩
      have h48 : w.heap.size ≤ w4.heap.size := hw4
      by_cases h1 : rk = 1
      · subst h1
        have hnx : stNext s ⟨1, ra, rb, rx⟩ = { s with floor := ra } := by unfold stNext; rw [if_pos rfl]
        by_cases hf : s.floor ≤ ra
        · have hfit : stFit s ⟨1, ra, rb, rx⟩ = true := by unfold stFit; rw [if_pos rfl]; exact decide_eq_true hf
          have HS := Lib.hid (show sStep s ⟨_, ra, rb, rx⟩ = ({ s with floor := ra }, 0) by rw [HST.out, if_pos hfit, hnx])
          clear hfit hnx
          go_wp2_with fail
          exact bodyPost_ret (v := .tuple #[.agg #[.int .i64 ra, .int .i64 s.term, .int .i64 s.vote, .slice A5 n c5], .int .i64 0]) (by simp [results, Try.results55, go_sem, y0, y1, y2, y3, hlz]) rfl (rstep_yes HS.out HF.out (by omega) (stf_of (t := { s with floor := ra }) (o6.setT k86 (by decide) hnF8 0 (.int .i64 ra)) rfl) (fun b h _ => hZX b h) (b6.setCell (by show w.heap.size ≤ w4.heap.size; omega) _))
        · have hfit : stFit s ⟨1, ra, rb, rx⟩ = false := by unfold stFit; rw [if_pos rfl]; exact decide_eq_false hf
          clear hnx
          have HS := Lib.hid (show sStep s ⟨_, ra, rb, rx⟩ = (s, 5) by rw [HST.out, if_neg (by rw [hfit]; simp)])
          clear hfit
          go_wp2_with fail
          exact bodyPost_ret (v := .tuple #[.agg #[.int .i64 s.floor, .int .i64 s.term, .int .i64 s.vote, .slice A n c], .int .i64 5]) (by simp [results, Try.results55, go_sem, y0, y1, y2, y3, hlz]) rfl (rstep_no HS.out HF.out (by omega) (hs6.setN hnF9 0 (.int .i64 ra)) (b6.setCell (by show w.heap.size ≤ w4.heap.size; omega) _))
      · by_cases h2 : rk = 2
        · subst h2
          have hnx : stNext s ⟨2, ra, rb, rx⟩ = { s with term := ra, vote := rb } := by unfold stNext; rw [if_neg (by show ¬ (2 : Int) = 1; decide), if_pos rfl]
          have hft : stFit s ⟨2, ra, rb, rx⟩ = !(decide (ra < s.term) || (ra == s.term && s.vote != 0 && s.vote != rb)) := by unfold stFit; rw [if_neg (by show ¬ (2 : Int) = 1; decide), if_pos rfl]
          clear h1
          by_cases t1 : s.term < ra
          · have hfit : stFit s ⟨2, ra, rb, rx⟩ = true := by rw [hft, decide_eq_false (by omega), show (ra == s.term) = false by rw [beq_eq_false_iff_ne]; omega]; rfl
            clear hft
            have HS := Lib.hid (show sStep s ⟨_, ra, rb, rx⟩ = ({ s with term := ra, vote := rb }, 0) by rw [HST.out, if_pos hfit, hnx])
            clear hfit hnx
            go_wp2_with fail
            exact bodyPost_ret (v := .tuple #[.agg #[.int .i64 s.floor, .int .i64 ra, .int .i64 rb, .slice A5 n c5], .int .i64 0]) (by simp [results, Try.results55, go_sem, y0, y1, y2, y3, hlz]) rfl (rstep_yes HS.out HF.out (by omega) (stf_of (t := { s with term := ra, vote := rb }) ((o6.setT k86 (by decide) hnF8 1 (.int .i64 ra)).setT (k86.set 1 (.int .i64 ra)) (by decide) hnF8 2 (.int .i64 rb)) rfl) (fun b h _ => hZX b h) ((b6.setCell (by show w.heap.size ≤ w4.heap.size; omega) _).setCell (by show w.heap.size ≤ w4.heap.size; omega) _))
          · by_cases t2 : ra = s.term
            · subst t2
              have q1 : (s.term == s.term) = true := by rw [beq_iff_eq]
              by_cases t3 : s.vote = 0
              · have q2 : (s.vote == 0) = true := by rw [beq_iff_eq]; exact t3
                have hfit : stFit s ⟨2, s.term, rb, rx⟩ = true := by rw [hft, decide_eq_false (by omega), q1, bne, q2]; rfl
                clear hft t3 q1
                have HS := Lib.hid (show sStep s ⟨_, s.term, rb, rx⟩ = ({ s with term := s.term, vote := rb }, 0) by rw [HST.out, if_pos hfit, hnx])
                clear hfit hnx
                go_wp2_with fail
                exact bodyPost_ret (v := .tuple #[.agg #[.int .i64 s.floor, .int .i64 s.term, .int .i64 rb, .slice A5 n c5], .int .i64 0]) (by simp [results, Try.results55, go_sem, y0, y1, y2, y3, hlz]) rfl (rstep_yes HS.out HF.out (by omega) (stf_of (t := { s with term := s.term, vote := rb }) ((o6.setT k86 (by decide) hnF8 1 (.int .i64 s.term)).setT (k86.set 1 (.int .i64 s.term)) (by decide) hnF8 2 (.int .i64 rb)) rfl) (fun b h _ => hZX b h) ((b6.setCell (by show w.heap.size ≤ w4.heap.size; omega) _).setCell (by show w.heap.size ≤ w4.heap.size; omega) _))
              · have q2 : (s.vote == 0) = false := by rw [beq_eq_false_iff_ne]; exact t3
                by_cases t4 : s.vote = rb
                · have q3 : (s.vote == rb) = true := by rw [beq_iff_eq]; exact t4
                  have hfit : stFit s ⟨2, s.term, rb, rx⟩ = true := by rw [hft, decide_eq_false (by omega), q1, bne, q2, bne, q3]; rfl
                  clear hft t3 t4 q1
                  have HS := Lib.hid (show sStep s ⟨_, s.term, rb, rx⟩ = ({ s with term := s.term, vote := rb }, 0) by rw [HST.out, if_pos hfit, hnx])
                  clear hfit hnx
                  go_wp2_with fail
                  exact bodyPost_ret (v := .tuple #[.agg #[.int .i64 s.floor, .int .i64 s.term, .int .i64 rb, .slice A5 n c5], .int .i64 0]) (by simp [results, Try.results55, go_sem, y0, y1, y2, y3, hlz]) rfl (rstep_yes HS.out HF.out (by omega) (stf_of (t := { s with term := s.term, vote := rb }) ((o6.setT k86 (by decide) hnF8 1 (.int .i64 s.term)).setT (k86.set 1 (.int .i64 s.term)) (by decide) hnF8 2 (.int .i64 rb)) rfl) (fun b h _ => hZX b h) ((b6.setCell (by show w.heap.size ≤ w4.heap.size; omega) _).setCell (by show w.heap.size ≤ w4.heap.size; omega) _))
                · have q3 : (s.vote == rb) = false := by rw [beq_eq_false_iff_ne]; exact t4
                  have hfit : stFit s ⟨2, s.term, rb, rx⟩ = false := by rw [hft, decide_eq_false (by omega), q1, bne, q2, bne, q3]; rfl
                  clear hft t3 t4 q1
                  clear hnx
                  have HS := Lib.hid (show sStep s ⟨_, s.term, rb, rx⟩ = (s, 5) by rw [HST.out, if_neg (by rw [hfit]; simp)])
                  clear hfit
                  go_wp2_with fail
                  exact bodyPost_ret (v := .tuple #[.agg #[.int .i64 s.floor, .int .i64 s.term, .int .i64 s.vote, .slice A n c], .int .i64 5]) (by simp [results, Try.results55, go_sem, y0, y1, y2, y3, hlz]) rfl (rstep_no HS.out HF.out (by omega) ((hs6.setN hnF9 1 (.int .i64 s.term)).setN hnF9 2 (.int .i64 rb)) ((b6.setCell (by show w.heap.size ≤ w4.heap.size; omega) _).setCell (by show w.heap.size ≤ w4.heap.size; omega) _))
            · have q1 : (ra == s.term) = false := by rw [beq_eq_false_iff_ne]; exact t2
              have hfit : stFit s ⟨2, ra, rb, rx⟩ = false := by rw [hft, decide_eq_true (by omega)]; rfl
              clear hft t2
              clear hnx
              have HS := Lib.hid (show sStep s ⟨_, ra, rb, rx⟩ = (s, 5) by rw [HST.out, if_neg (by rw [hfit]; simp)])
              clear hfit
              go_wp2_with fail
              exact bodyPost_ret (v := .tuple #[.agg #[.int .i64 s.floor, .int .i64 s.term, .int .i64 s.vote, .slice A n c], .int .i64 5]) (by simp [results, Try.results55, go_sem, y0, y1, y2, y3, hlz]) rfl (rstep_no HS.out HF.out (by omega) ((hs6.setN hnF9 1 (.int .i64 ra)).setN hnF9 2 (.int .i64 rb)) ((b6.setCell (by show w.heap.size ≤ w4.heap.size; omega) _).setCell (by show w.heap.size ≤ w4.heap.size; omega) _))
        · by_cases h3 : rk = 3
          · subst h3
            have hnx : stNext s ⟨3, ra, rb, rx⟩ = { s with log := s.log ++ [⟨rb, rx⟩] } := by unfold stNext; rw [if_neg (by show ¬ (3 : Int) = 1; decide), if_neg (by show ¬ (3 : Int) = 2; decide), if_pos rfl]
            have hft : stFit s ⟨3, ra, rb, rx⟩ = (ra == (n : Int) + 1) := by unfold stFit; rw [if_neg (by show ¬ (3 : Int) = 1; decide), if_neg (by show ¬ (3 : Int) = 2; decide), if_pos rfl, HLN.out]
            have HFT := Lib.hid hft
            have HNX := Lib.hid hnx
            have hw1 : IntKind.i64.wrap ((n : Int) + 1) = (n : Int) + 1 := IntWalk.i64_in _ (by omega)
            have hrow : ∀ k, (Value.slice A5 n c5).ownBlock = some k → w4.heap.size ≤ k ∧ k < wc.heap.size ∧ k ≠ w4.heap.size := fun k hk => by
              obtain ⟨h1, h2, cs, h3⟩ := o6.row k hk
              refine ⟨h1, h2, fun e => ?_⟩
              unfold Blk at k86
              rw [e, k86] at h3
              injection h3 with h3
              injection h3 with _ h3
              exact absurd h3 (by decide)
            clear h1 h2 hft hnx
            go_upto_region 17 with (fail)
            refine wp_region_invX (B := w4.heap.size) (by kernel_rfl) ?hB17 [.val (.pointer (some ⟨w4.heap.size, 3, none⟩)), .valAt 0 1 (.slice A5 n c5), .val (.pointer (some ⟨w.heap.size + 1, 2, none⟩)), .val (.int .i64 rb), .ownAt 0 wc.heap.size [], .val (.pointer (some ⟨w.heap.size + 1, 3, none⟩)), .val (.slice X m cx), .fx_ 0 (IsOwnN wc.heap.size m rx) (isOwnN_step _ _ _), .at 1 (IsEntV wc.heap.size m rb rx) (isEntV_step _ _ _ _), .at 1 (IsEnt1 wc.heap.size m rb rx) (isEnt1_step _ _ _ _), .fx_ 1 (IsRowE w4.heap.size (fun b => (F b ∧ b < w.heap.size) ∨ wc.heap.size ≤ b) (n + 1) (s.log ++ [⟨rb, rx⟩])) (isRowE_step _ _ _ _), .val (.pointer (some ⟨w4.heap.size, 3, none⟩)), .fxAt 2 undef] [7, 10, 12] (fun j wx => (j ≤ 2 → Blk wx w4.heap.size TSt #[.int .i64 s.floor, .int .i64 s.term, .int .i64 s.vote, .slice A5 n c5]) ∧ (j ≤ 1 → OwnE wx w4.heap.size (fun b => F b ∧ b < w.heap.size) A5 n c5 s.log) ∧ (j = 3 → ∃ A2 c2, Blk wx w4.heap.size TSt #[.int .i64 s.floor, .int .i64 s.term, .int .i64 s.vote, .slice A2 (n + 1) c2] ∧ OwnE wx w4.heap.size (fun b => (F b ∧ b < w.heap.size) ∨ wc.heap.size ≤ b) A2 (n + 1) c2 (s.log ++ [⟨rb, rx⟩]))) (T := ?T17) (by kernel_rfl) ?hSt17 ?h017 ?hT17 ?hask17 ?hend17
            case hB17 =>
              omega
            case hSt17 =>
              exact fun j x y hb h => ⟨fun hj => (h.1 hj).below hb (h.1 hj).lt, fun hj => (h.2.1 hj).step hb, fun hj => by obtain ⟨A2, c2, k1, k2⟩ := h.2.2 hj; exact ⟨A2, c2, k1.below hb k1.lt, k2.step hb⟩⟩
            case h017 =>
              exact ⟨fun _ => k86, fun _ => o6, (fun h => by cases h)⟩
            case hT17 =>
              intro vs
              simp only [fill, Act.put, List.setIfInBounds_toArray, List.set_cons_succ, List.set_cons_zero, Nat.reduceAdd]
              exact rfl
            case hask17 =>
              refine askX_cons (fun vs w1 s hlo hhi hb hst hd hin => ?_) ?_; (focus (clear hlo hhi hst hin; simp only [DepX, Region.binds, SxI, List.getD_cons_zero, List.getD_cons_succ, Sx.av_val, Sx.av_valAt, Sx.av_fxAt, Sx.av_bsAt, Sx.av_ownAt, Sx.av_fxOwn, Sx.av_at, Sx.av_fx, Sx.av_on, Sx.av_fxOn, and_true] at hd; go_simp; exact givx_pure rfl rfl))
              refine askX_cons (fun vs w1 s hlo hhi hb hst hd hin => ?_) ?_
              · have hk1 : Blk w1 w4.heap.size TSt _ := hst.1 (by exact Nat.le_trans (show _ ≤ 1 from hhi) (by omega))
                clear hlo hhi hst
                simp only [DepX, Region.binds, SxI, List.getD_cons_zero, List.getD_cons_succ, Sx.av_val, Sx.av_valAt, Sx.av_fxAt, Sx.av_bsAt, Sx.av_ownAt, Sx.av_fxOwn, Sx.av_at, Sx.av_fx, Sx.av_on, Sx.av_fxOn, and_true] at hd
                have c0 := hk1.cell 3
                simp only [List.getElem?_toArray, List.getElem?_cons_zero, List.getElem?_cons_succ] at c0
                go_simp
                exact givx_pure rfl rfl
              refine askX_cons (fun vs w1 s hlo hhi hb hst hd hin => ?_) ?_; (focus (clear hlo hhi hst hin; simp only [DepX, Region.binds, SxI, List.getD_cons_zero, List.getD_cons_succ, Sx.av_val, Sx.av_valAt, Sx.av_fxAt, Sx.av_bsAt, Sx.av_ownAt, Sx.av_fxOwn, Sx.av_at, Sx.av_fx, Sx.av_on, Sx.av_fxOn, and_true] at hd; go_simp; exact givx_pure rfl rfl))
              refine askX_cons (fun vs w1 s hlo hhi hb hst hd hin => ?_) ?_
              · clear hlo hhi hst
                simp only [DepX, Region.binds, SxI, List.getD_cons_zero, List.getD_cons_succ, Sx.av_val, Sx.av_valAt, Sx.av_fxAt, Sx.av_bsAt, Sx.av_ownAt, Sx.av_fxOwn, Sx.av_at, Sx.av_fx, Sx.av_on, Sx.av_fxOn, and_true] at hd
                have c0 := (kr6.below hb (by omega)).cell 2
                simp only [List.getElem?_toArray, List.getElem?_cons_zero, List.getElem?_cons_succ] at c0
                go_simp
                exact givx_pure rfl rfl
              refine askX_cons (fun vs w1 s hlo hhi hb hst hd hin => ?_) ?_
              · obtain rfl : s = 0 := Nat.le_antisymm hhi hlo
                clear hlo hhi
                have hst : (fun j wx => (j ≤ 2 → Blk wx w4.heap.size TSt #[.int .i64 s.floor, .int .i64 s.term, .int .i64 s.vote, .slice A5 n c5]) ∧ (j ≤ 1 → OwnE wx w4.heap.size (fun b => F b ∧ b < w.heap.size) A5 n c5 s.log) ∧ (j = 3 → ∃ A2 c2, Blk wx w4.heap.size TSt #[.int .i64 s.floor, .int .i64 s.term, .int .i64 s.vote, .slice A2 (n + 1) c2] ∧ OwnE wx w4.heap.size (fun b => (F b ∧ b < w.heap.size) ∨ wc.heap.size ≤ b) A2 (n + 1) c2 (s.log ++ [⟨rb, rx⟩]))) 0 w1 := hst
                simp only [DepX, Region.binds, SxI, List.getD_cons_zero, List.getD_cons_succ, Sx.av_val, Sx.av_valAt, Sx.av_fxAt, Sx.av_bsAt, Sx.av_ownAt, Sx.av_fxOwn, Sx.av_at, Sx.av_fx, Sx.av_on, Sx.av_fxOn, and_true] at hd
                have hle := hb.size
                go_simp
                exact givx_value rfl ((Below.refl _ _).alloc (Nat.le_refl _) _) ⟨_, _, _, rfl, Ob.empty hle⟩
              refine askX_cons (fun vs w1 s hlo hhi hb hst hd hin => ?_) ?_; (focus (clear hlo hhi hst hin; simp only [DepX, Region.binds, SxI, List.getD_cons_zero, List.getD_cons_succ, Sx.av_val, Sx.av_valAt, Sx.av_fxAt, Sx.av_bsAt, Sx.av_ownAt, Sx.av_fxOwn, Sx.av_at, Sx.av_fx, Sx.av_on, Sx.av_fxOn, and_true] at hd; go_simp; exact givx_pure rfl rfl))
              refine askX_cons (fun vs w1 s hlo hhi hb hst hd hin => ?_) ?_
              · clear hlo hhi hst
                simp only [DepX, Region.binds, SxI, List.getD_cons_zero, List.getD_cons_succ, Sx.av_val, Sx.av_valAt, Sx.av_fxAt, Sx.av_bsAt, Sx.av_ownAt, Sx.av_fxOwn, Sx.av_at, Sx.av_fx, Sx.av_on, Sx.av_fxOn, and_true] at hd
                have c0 := (kr6.below hb (by omega)).cell 3
                simp only [List.getElem?_toArray, List.getElem?_cons_zero, List.getElem?_cons_succ] at c0
                go_simp
                exact givx_pure rfl rfl
              refine askX_cons (fun vs w1 s hlo hhi hb hst hd hin => ?_) ?_
              · obtain rfl : s = 0 := Nat.le_antisymm hhi hlo
                clear hlo hhi
                have hst : (fun j wx => (j ≤ 2 → Blk wx w4.heap.size TSt #[.int .i64 s.floor, .int .i64 s.term, .int .i64 s.vote, .slice A5 n c5]) ∧ (j ≤ 1 → OwnE wx w4.heap.size (fun b => F b ∧ b < w.heap.size) A5 n c5 s.log) ∧ (j = 3 → ∃ A2 c2, Blk wx w4.heap.size TSt #[.int .i64 s.floor, .int .i64 s.term, .int .i64 s.vote, .slice A2 (n + 1) c2] ∧ OwnE wx w4.heap.size (fun b => (F b ∧ b < w.heap.size) ∨ wc.heap.size ≤ b) A2 (n + 1) c2 (s.log ++ [⟨rb, rx⟩]))) 0 w1 := hst
                simp only [DepX, Region.binds, SxI, List.getD_cons_zero, List.getD_cons_succ, Sx.av_val, Sx.av_valAt, Sx.av_fxAt, Sx.av_bsAt, Sx.av_ownAt, Sx.av_fxOwn, Sx.av_at, Sx.av_fx, Sx.av_on, Sx.av_fxOn, and_true] at hd
                have hle := hb.size
                obtain ⟨P2, n1, c1, hv, ho⟩ := hd.1 (Nat.le_refl 0)
                have h84 := hd.2
                clear hd
                obtain rfl : n1 = 0 := ho.1.symm
                have hXw : Bs w1 w1.heap.size X rx := (hX.below (b6.trans (hb.mono h48))).more (b6.trans (hb.mono h48)).size
                refine wanted_yes (by rfl) ?_
                refine gives_app (.tmp 82) (.tmp 84) rfl (by exact hv) ho (by exact h84) HM.out hXw (by omega) hle ?_
                intro A2 c2 w2 o2 g2 _
                rw [Nat.zero_add] at o2
                simp only [List.nil_append] at o2
                have hk8' : Blk w1 w4.heap.size TSt _ := hst.1 (by decide)
                have hro : ∀ b, b < wc.heap.size → some b ≠ (Value.slice P2 0 c1).ownBlock := fun b hlt e => by
                  have := (ho.row b e.symm).1
                  omega
                exact givx_fx rfl (ho.belowB (by omega) (by omega) g2) ⟨fun _ => hk8'.grown g2 (hro _ hl86), fun _ => (hst.2.1 (by decide)).grownT g2 (ho.ov.notT (by decide)) (fun b hf _ => hro b (by have := b6.size; omega)), (fun h => by omega)⟩ ⟨A2, c2, by rw [Nat.zero_add], o2⟩
              refine askX_cons (fun vs w1 s hlo hhi hb hst hd hin => ?_) ?_
              · obtain rfl : s = 1 := Nat.le_antisymm hhi hlo
                clear hlo hhi
                have hst : (fun j wx => (j ≤ 2 → Blk wx w4.heap.size TSt #[.int .i64 s.floor, .int .i64 s.term, .int .i64 s.vote, .slice A5 n c5]) ∧ (j ≤ 1 → OwnE wx w4.heap.size (fun b => F b ∧ b < w.heap.size) A5 n c5 s.log) ∧ (j = 3 → ∃ A2 c2, Blk wx w4.heap.size TSt #[.int .i64 s.floor, .int .i64 s.term, .int .i64 s.vote, .slice A2 (n + 1) c2] ∧ OwnE wx w4.heap.size (fun b => (F b ∧ b < w.heap.size) ∨ wc.heap.size ≤ b) A2 (n + 1) c2 (s.log ++ [⟨rb, rx⟩]))) 1 w1 := hst
                simp only [DepX, Region.binds, SxI, List.getD_cons_zero, List.getD_cons_succ, Sx.av_val, Sx.av_valAt, Sx.av_fxAt, Sx.av_bsAt, Sx.av_ownAt, Sx.av_fxOwn, Sx.av_at, Sx.av_fx, Sx.av_on, Sx.av_fxOn, and_true] at hd
                obtain ⟨A2, c2, hv, ho2⟩ := hd.2 (by decide)
                have h20 := hd.1
                clear hd
                go_simp
                exact givx_pure rfl ⟨A2, c2, rfl, ho2⟩
              refine askX_cons (fun vs w1 s hlo hhi hb hst hd hin => ?_) ?_
              · obtain rfl : s = 1 := Nat.le_antisymm hhi hlo
                clear hlo hhi
                have hst : (fun j wx => (j ≤ 2 → Blk wx w4.heap.size TSt #[.int .i64 s.floor, .int .i64 s.term, .int .i64 s.vote, .slice A5 n c5]) ∧ (j ≤ 1 → OwnE wx w4.heap.size (fun b => F b ∧ b < w.heap.size) A5 n c5 s.log) ∧ (j = 3 → ∃ A2 c2, Blk wx w4.heap.size TSt #[.int .i64 s.floor, .int .i64 s.term, .int .i64 s.vote, .slice A2 (n + 1) c2] ∧ OwnE wx w4.heap.size (fun b => (F b ∧ b < w.heap.size) ∨ wc.heap.size ≤ b) A2 (n + 1) c2 (s.log ++ [⟨rb, rx⟩]))) 1 w1 := hst
                simp only [DepX, Region.binds, SxI, List.getD_cons_zero, List.getD_cons_succ, Sx.av_val, Sx.av_valAt, Sx.av_fxAt, Sx.av_bsAt, Sx.av_ownAt, Sx.av_fxOwn, Sx.av_at, Sx.av_fx, Sx.av_on, Sx.av_fxOn, and_true] at hd
                obtain ⟨A2, c2, hv, ho2⟩ := hd (Nat.le_refl 1)
                clear hd
                go_simp
                exact givx_value rfl ((Below.refl _ _).alloc (Nat.le_refl _) _) ⟨_, A2, c2, rfl, Blk.new _ _ _, Ob.alloc ho2 _⟩
              refine askX_cons (fun vs w1 s hlo hhi hb hst hd hin => ?_) ?_
              · obtain rfl : s = 1 := Nat.le_antisymm hhi hlo
                clear hlo hhi
                have hst : (fun j wx => (j ≤ 2 → Blk wx w4.heap.size TSt #[.int .i64 s.floor, .int .i64 s.term, .int .i64 s.vote, .slice A5 n c5]) ∧ (j ≤ 1 → OwnE wx w4.heap.size (fun b => F b ∧ b < w.heap.size) A5 n c5 s.log) ∧ (j = 3 → ∃ A2 c2, Blk wx w4.heap.size TSt #[.int .i64 s.floor, .int .i64 s.term, .int .i64 s.vote, .slice A2 (n + 1) c2] ∧ OwnE wx w4.heap.size (fun b => (F b ∧ b < w.heap.size) ∨ wc.heap.size ≤ b) A2 (n + 1) c2 (s.log ++ [⟨rb, rx⟩]))) 1 w1 := hst
                simp only [DepX, Region.binds, SxI, List.getD_cons_zero, List.getD_cons_succ, Sx.av_val, Sx.av_valAt, Sx.av_fxAt, Sx.av_bsAt, Sx.av_ownAt, Sx.av_fxOwn, Sx.av_at, Sx.av_fx, Sx.av_on, Sx.av_fxOn, and_true] at hd
                obtain ⟨k1, A2, c2, hv, hbk, ho2⟩ := hd.2.1 (Nat.le_refl 1)
                have h18 := hd.1
                clear hd
                have hrowE := hst.2.1 (Nat.le_refl 1)
                have hle := hb.size
                have hwc := b6.size
                refine wanted_yes (by rfl) ?_
                have hen : ∀ i y, [(⟨rb, rx⟩ : Ent)][i]? = some y → EnAt w1 (fun b => (F b ∧ b < w.heap.size) ∨ wc.heap.size ≤ b) [.int .i64 rb, .slice A2 m c2] i y := by
                  intro i y hy
                  match i, hy with
                  | 0, hy =>
                    obtain rfl : (⟨rb, rx⟩ : Ent) = y := by simpa using hy
                    exact ⟨A2, c2, rfl, by show some (Value.slice A2 m c2) = some (.slice A2 rx.length c2); rw [HM.out], by show rx.length ≤ c2; rw [HM.out]; exact (Ob.cap ho2).1, (Ob.cap ho2).2, (BsF.of_own ho2).mono fun b hb _ => .inr hb⟩
                refine gives_appE (.tmp 79) (.tmp 87) rfl (by exact h18) (hrowE.monoF fun b hf _ => .inl hf) (by exact hv) (L2 := [⟨rb, rx⟩]) (vs2 := [.int .i64 rb, .slice A2 m c2]) (m := 1) rfl rfl (Rd.of_blk hbk) hen (fun u hu => by simp at hu; rcases hu with rfl | rfl <;> rfl) (by omega) (by omega) ?_ ?_
                · intro b hf _ e
                  have h1 := hrow b e.symm
                  rcases hf with hf | hf
                  · omega
                  · omega
                · intro A3 c3 w3 o3 g3 _
                  refine givx_fx rfl ⟨g3.os, g3.tape, g3.output, g3.size, fun k hk => g3.block k (by omega) (fun e => by have := (hrow k e.symm).1; omega)⟩ ⟨fun _ => (hst.1 (by decide)).grown g3 (fun e => (hrow _ e.symm).2.2 rfl), (fun h => by omega), (fun h => by omega)⟩ ⟨A3, c3, rfl, o3⟩
              refine askX_cons (fun vs w1 s hlo hhi hb hst hd hin => ?_) ?_; (focus (clear hlo hhi hst hin; simp only [DepX, Region.binds, SxI, List.getD_cons_zero, List.getD_cons_succ, Sx.av_val, Sx.av_valAt, Sx.av_fxAt, Sx.av_bsAt, Sx.av_ownAt, Sx.av_fxOwn, Sx.av_at, Sx.av_fx, Sx.av_on, Sx.av_fxOn, and_true] at hd; go_simp; exact givx_pure rfl rfl))
              refine askX_cons (fun vs w1 s hlo hhi hb hst hd hin => ?_) ?_
              · obtain rfl : s = 2 := Nat.le_antisymm hhi hlo
                clear hlo hhi
                have hst : (fun j wx => (j ≤ 2 → Blk wx w4.heap.size TSt #[.int .i64 s.floor, .int .i64 s.term, .int .i64 s.vote, .slice A5 n c5]) ∧ (j ≤ 1 → OwnE wx w4.heap.size (fun b => F b ∧ b < w.heap.size) A5 n c5 s.log) ∧ (j = 3 → ∃ A2 c2, Blk wx w4.heap.size TSt #[.int .i64 s.floor, .int .i64 s.term, .int .i64 s.vote, .slice A2 (n + 1) c2] ∧ OwnE wx w4.heap.size (fun b => (F b ∧ b < w.heap.size) ∨ wc.heap.size ≤ b) A2 (n + 1) c2 (s.log ++ [⟨rb, rx⟩]))) 2 w1 := hst
                simp only [DepX, Region.binds, SxI, List.getD_cons_zero, List.getD_cons_succ, Sx.av_val, Sx.av_valAt, Sx.av_fxAt, Sx.av_bsAt, Sx.av_ownAt, Sx.av_fxOwn, Sx.av_at, Sx.av_fx, Sx.av_on, Sx.av_fxOn, and_true] at hd
                obtain ⟨A2, c2, hv, ho2⟩ := hd.2.1 (by omega)
                have h14 := hd.1
                clear hd
                have hk1 : Blk w1 w4.heap.size TSt _ := hst.1 (by decide)
                have y0 := hk1.cell 3
                have z0 := hk1.free 3
                have hwc := b6.size
                simp only [List.getElem?_toArray, List.getElem?_cons_zero, List.getElem?_cons_succ] at y0
                generalize vs 10 = v12 at *
                subst hv
                go_simp
                have hk2 := hk1.set 3 (.slice A2 (n + 1) c2)
                have hFg : ¬ ((F w4.heap.size ∧ w4.heap.size < w.heap.size) ∨ wc.heap.size ≤ w4.heap.size) := fun h => by rcases h with h | h <;> omega
                exact givx_skip rfl ((Below.refl w4.heap.size w1).setCell (Nat.le_refl _) _) ⟨(fun h => by omega), (fun h => by omega), fun _ => ⟨A2, c2, hk2, ho2.setT hk1 (by decide) hFg 3 _⟩⟩ rfl
              exact askX_nil
            case hend17 =>
              intro vs w1 hb hst hd
              simp only [AllX, SxI, List.getD_cons_zero, List.getD_cons_succ, Sx.av_val, Sx.av_valAt, Sx.av_fxAt, Sx.av_bsAt, Sx.av_ownAt, Sx.av_fxOwn, Sx.av_at, Sx.av_fx, Sx.av_on, Sx.av_fxOn, and_true, Nat.reduceAdd] at hd
              have hlast := hd.2.2.2.2.2.2.2.2.2.2.2.2
              clear hd
              have b7 := b6.trans (hb.mono h48)
              obtain ⟨A7, c7, k87, o7⟩ := hst.2.2 rfl
              have ks7 := ks6.below hb (by omega)
              have kz7 := kz6.below hb (by omega)
              have hs7 : StF w1 F s A n c := ⟨hs6.1, hs6.2.1, hs6.2.2.1, hs6.2.2.2.keep hb.size fun b hf _ => hb.block b (by have := HF.out b hf; omega)⟩
              have hwc := b6.size
              clear hst hb s0 s1 s2 s3 r0 r1 r2 r3 y0 y1 y2 y3 z0 z1 z2 z3 d0 d1 d2 d3 e0 e1 e2 e3 ks6 kr6 kz6 k86 o6 hs6 b6 hlz
              have hlz := kz7.lt
              have s0 := ks7.cell 0
              have s1 := ks7.cell 1
              have s2 := ks7.cell 2
              have s3 := ks7.cell 3
              have y0 := kz7.cell 0
              have y1 := kz7.cell 1
              have y2 := kz7.cell 2
              have y3 := kz7.cell 3
              have z0 := kz7.free 0
              have z1 := kz7.free 1
              have z2 := kz7.free 2
              have z3 := kz7.free 3
              have d0 := k87.cell 0
              have d1 := k87.cell 1
              have d2 := k87.cell 2
              have d3 := k87.cell 3
              simp only [List.getElem?_toArray, List.getElem?_cons_zero, List.getElem?_cons_succ] at s0 s1 s2 s3 y0 y1 y2 y3 d0 d1 d2 d3
              have hl87 := k87.lt
              obtain ⟨okv, hok⟩ : ∃ okv, (ra == (n : Int) + 1) = okv := ⟨_, rfl⟩
              rw [hok]
              have HOK := Lib.hid hok
              clear hok
              cases okv
              · have HS := Lib.hid (show sStep s ⟨3, ra, rb, rx⟩ = (s, 5) by rw [HST.out, if_neg (by rw [HFT.out, HOK.out]; simp)])
                go_wp2_with fail
                exact bodyPost_ret (v := .tuple #[.agg #[.int .i64 s.floor, .int .i64 s.term, .int .i64 s.vote, .slice A n c], .int .i64 5]) (by simp [results, Try.results55, go_sem, y0, y1, y2, y3, hlz]) rfl (rstep_no HS.out HF.out (by omega) hs7 b7)
              · have HS := Lib.hid (show sStep s ⟨3, ra, rb, rx⟩ = ({ s with log := s.log ++ [⟨rb, rx⟩] }, 0) by rw [HST.out, if_pos (by rw [HFT.out, HOK.out]), HNX.out])
                go_wp2_with fail
                have sf : StF w1 (fun b => F b ∨ w4.heap.size ≤ b) { s with log := s.log ++ [⟨rb, rx⟩] } A7 (n + 1) c7 :=
                  ⟨o7.1, o7.cap.1, o7.cap.2, o7.en (fun b hf _ => hf.imp (fun h => h.1) (fun h => by omega)) (fun b hf _ => .inr hf)⟩
                exact bodyPost_ret (v := .tuple #[.agg #[.int .i64 s.floor, .int .i64 s.term, .int .i64 s.vote, .slice A7 (n + 1) c7], .int .i64 0]) (by simp [results, Try.results55, go_sem, y0, y1, y2, y3, hlz]) rfl (rstep_yes (t := { s with log := s.log ++ [⟨rb, rx⟩] }) HS.out HF.out (by omega) sf (fun b h _ => hZX b h) b7)
          · obtain rfl : rk = 4 := by omega
            have hnx : stNext s ⟨4, ra, rb, rx⟩ = { s with log := s.log.take (ra - 1).toNat } := by unfold stNext; rw [if_neg (by show ¬ (4 : Int) = 1; decide), if_neg (by show ¬ (4 : Int) = 2; decide), if_neg (by show ¬ (4 : Int) = 3; decide)]
            have hft : stFit s ⟨4, ra, rb, rx⟩ = decide (ra ≤ (n : Int)) := by unfold stFit; rw [if_neg (by show ¬ (4 : Int) = 1; decide), if_neg (by show ¬ (4 : Int) = 2; decide), if_neg (by show ¬ (4 : Int) = 3; decide), HLN.out]
            have hra := HRA.out rfl
            clear h1 h2 h3
            by_cases hf : ra ≤ (n : Int)
            · obtain ⟨k, hk⟩ := Int.eq_ofNat_of_zero_le (show 0 ≤ ra - 1 by omega)
              obtain rfl : ra = (k : Int) + 1 := by omega
              have hfit : stFit s ⟨4, (k : Int) + 1, rb, rx⟩ = true := by rw [hft]; exact decide_eq_true hf
              have hk5 : k ≤ c5 := by omega
              have hk6 : (k : Int) ≤ (c5 : Int) := by omega
              have hw1 : IntKind.i64.wrap ((k : Int) + 1 - 1) = (k : Int) := by rw [show (k : Int) + 1 - 1 = k by omega]; exact IntWalk.i64_in _ (by omega)
              have hw2 : ((k : Int)).toNat = k := Int.toNat_natCast k
              have hkn : k ≤ n := by omega
              have HS := Lib.hid (show sStep s ⟨4, (k : Int) + 1, rb, rx⟩ = ({ s with log := s.log.take k }, 0) by rw [HST.out, if_pos hfit, hnx]; simp)
              clear hfit hnx hft
              go_wp2_with fail
              have sf : StF (wc.setCell ⟨w4.heap.size, 3, none⟩ (.slice A5 k c5)) (fun b => F b ∨ w4.heap.size ≤ b) { s with log := s.log.take k } A5 k c5 :=
                ⟨by show (s.log.take k).length = k; rw [List.length_take, HLN.out]; omega, hk5, hcap5.2, ((stf_of (t := s) (o6.setT k86 (by decide) hnF8 3 (.slice A5 k c5)) rfl).2.2.2).take k⟩
              exact bodyPost_ret (v := .tuple #[.agg #[.int .i64 s.floor, .int .i64 s.term, .int .i64 s.vote, .slice A5 k c5], .int .i64 0]) (by simp [results, Try.results55, go_sem, y0, y1, y2, y3, hlz]) rfl (rstep_yes (t := { s with log := s.log.take k }) HS.out HF.out (by omega) sf (fun b h _ => hZX b h) (b6.setCell (by show w.heap.size ≤ w4.heap.size; omega) _))
            · have hfit : stFit s ⟨4, ra, rb, rx⟩ = false := by rw [hft]; exact decide_eq_false hf
              clear hnx hft
              have HS := Lib.hid (show sStep s ⟨_, ra, rb, rx⟩ = (s, 5) by rw [HST.out, if_neg (by rw [hfit]; simp)])
              clear hfit
              go_wp2_with fail
              exact bodyPost_ret (v := .tuple #[.agg #[.int .i64 s.floor, .int .i64 s.term, .int .i64 s.vote, .slice A n c], .int .i64 5]) (by simp [results, Try.results55, go_sem, y0, y1, y2, y3, hlz]) rfl (rstep_no HS.out HF.out (by omega) hs6 b6)
end Go.Proofs.Ytcgkoojegopfnaa
