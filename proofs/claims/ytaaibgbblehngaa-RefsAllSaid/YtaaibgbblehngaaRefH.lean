/- Plain facts on chunks that are used and freed; a row of bools. -/
import Derived.Test.YtaaibgbblehngaaRefG
namespace Go.Proofs.Ytaaibgbblehngaa
open Go.RowKit

theorem mem_whr {p : Nat → Bool} {k : Nat} {x : Int} : x ∈ whr p k ↔ ∃ c : Nat, x = (c : Int) ∧ 1 ≤ c ∧ c < k ∧ p c = true := by
  unfold whr
  rw [List.mem_map]
  constructor
  · rintro ⟨c, hc, rfl⟩
    obtain ⟨h1, h2⟩ := List.mem_filter.1 hc
    have := List.mem_range.1 h1
    simp only [Bool.and_eq_true, decide_eq_true_eq] at h2
    exact ⟨c, rfl, h2.1, this, h2.2⟩
  · rintro ⟨c, rfl, h1, h2, h3⟩
    exact ⟨c, List.mem_filter.2 ⟨List.mem_range.2 h2, by simp [h1, h3]⟩, rfl⟩
theorem whr_sorted (p : Nat → Bool) (k : Nat) : (whr p k).Pairwise (· < ·) := by
  induction k with
  | zero => simp [whr]
  | succ k ih =>
    rw [whr_succ]
    refine List.pairwise_append.2 ⟨ih, by split <;> simp, fun x hx y hy => ?_⟩
    obtain ⟨c, rfl, _, hc, _⟩ := mem_whr.1 hx
    split at hy
    · simp at hy; subst hy; omega
    · simp at hy
theorem whr_rising (p : Nat → Bool) (k i j : Nat) (hij : i < j) (hj : j < (whr p k).length) : (whr p k).getD i 0 < (whr p k).getD j 0 := by
  have h := List.pairwise_iff_getElem.1 (whr_sorted p k) i j (by omega) hj hij
  simpa [List.getD_eq_getElem?_getD, hj, show i < (whr p k).length by omega] using h
theorem whr_or (a b : Nat → Bool) (h : ∀ c, ¬ (a c = true ∧ b c = true)) (k : Nat) : (whr (fun c => a c || b c) k).length = (whr a k).length + (whr b k).length := by
  induction k with
  | zero => simp [whr]
  | succ k ih =>
    have hk := h k
    rw [whr_succ, whr_succ, whr_succ, List.length_append, List.length_append, List.length_append, ih]
    cases ha : a k <;> cases hb : b k <;> by_cases h1 : 1 ≤ k <;> simp_all <;> omega

/-- What is left when the snapshots of the first k IDs are gone. -/
def rst (M : List Snp) (k : Nat) : List Snp := (M.take k).foldl (fun r x => wo r x.id) M
theorem rst_zero (M : List Snp) : rst M 0 = M := rfl
theorem rst_succ (M : List Snp) (k : Nat) {x : Snp} (h : M[k]? = some x) : rst M (k + 1) = wo (rst M k) x.id := by
  obtain ⟨hk, rfl⟩ := List.getElem?_eq_some_iff.1 h
  unfold rst
  rw [List.take_succ_eq_append_getElem hk, List.foldl_append]
  rfl
theorem mem_rst {M : List Snp} {y : Snp} : ∀ {k : Nat}, y ∈ rst M k → y ∈ M ∧ ∀ i x, i < k → M[i]? = some x → y.id ≠ x.id
  | 0, h => ⟨h, fun i x hi => absurd hi (by omega)⟩
  | k + 1, h => by
    by_cases hk : k < M.length
    · have hx : M[k]? = some M[k] := List.getElem?_eq_getElem hk
      rw [rst_succ M k hx] at h
      obtain ⟨h1, h2⟩ := List.mem_filter.1 h
      obtain ⟨h3, h4⟩ := mem_rst h1
      refine ⟨h3, fun i x hi hxi => ?_⟩
      by_cases he : i = k
      · subst he
        rw [hx] at hxi
        injection hxi with hxi
        subst hxi
        simpa using h2
      · exact h4 i x (by omega) hxi
    · have e : rst M (k + 1) = rst M k := by
        unfold rst
        rw [List.take_of_length_le (by omega), List.take_of_length_le (by omega)]
      rw [e] at h
      obtain ⟨h3, h4⟩ := mem_rst h
      exact ⟨h3, fun i x hi hxi => by
        have := (List.getElem?_eq_some_iff.1 hxi).1
        exact h4 i x (by omega) hxi⟩
theorem rst_all (M : List Snp) : rst M M.length = [] := by
  refine List.eq_nil_iff_forall_not_mem.2 fun y hy => ?_
  obtain ⟨h1, h2⟩ := mem_rst hy
  obtain ⟨i, hi, rfl⟩ := List.getElem_of_mem h1
  exact h2 i M[i] hi (List.getElem?_eq_getElem hi) rfl
theorem Few.rst {M : List Snp} (h : Few M) : ∀ k, Few (rst M k)
  | 0 => h
  | k + 1 => by
    by_cases hk : k < M.length
    · rw [rst_succ M k (List.getElem?_eq_getElem hk)]
      exact (Few.rst h k).wo _
    · have e : Go.Proofs.Ytaaibgbblehngaa.rst M (k + 1) = Go.Proofs.Ytaaibgbblehngaa.rst M k := by
        unfold Go.Proofs.Ytaaibgbblehngaa.rst
        rw [List.take_of_length_le (by omega), List.take_of_length_le (by omega)]
      rw [e]
      exact Few.rst h k
theorem cnt_wo_le (L : List Snp) (id : Int) (c : Nat) : cnt (wo L id) c ≤ cnt L c := by
  induction L with
  | nil => exact Nat.le_refl _
  | cons a L ih =>
    have e : cnt (a :: L) c = occ a.chunks c + cnt L c := by simp [cnt]
    unfold wo at ih ⊢
    rw [List.filter_cons]
    split
    · have e2 : cnt (a :: L.filter (fun x => x.id != id)) c = occ a.chunks c + cnt (L.filter (fun x => x.id != id)) c := by simp [cnt]
      omega
    · omega
theorem cnt_rst_le (M : List Snp) (c : Nat) : ∀ k, cnt (rst M k) c ≤ cnt M c
  | 0 => Nat.le_refl _
  | k + 1 => by
    by_cases hk : k < M.length
    · rw [rst_succ M k (List.getElem?_eq_getElem hk)]
      exact Nat.le_trans (cnt_wo_le _ _ c) (cnt_rst_le M c k)
    · have e : rst M (k + 1) = rst M k := by
        unfold rst
        rw [List.take_of_length_le (by omega), List.take_of_length_le (by omega)]
      rw [e]
      exact cnt_rst_le M c k

/-- Which chunks are freed so far. -/
def fre (M : List Snp) (k : Nat) (c : Nat) : Bool := decide (0 < cnt M c) && cnt (rst M k) c == 0
theorem fre_zero (M : List Snp) (c : Nat) : fre M 0 c = false := by
  unfold fre
  rw [rst_zero]
  by_cases h : 0 < cnt M c
  · simp; omega
  · simp [h]
/-- The chunks that the next ones to go free. -/
def nxt (M : List Snp) (k : Nat) (x : Snp) (c : Nat) : Bool := decide (0 < cnt (rst M k) c) && cnt (wo (rst M k) x.id) c == 0
theorem fre_succ (M : List Snp) (k : Nat) {x : Snp} (h : M[k]? = some x) (c : Nat) : fre M (k + 1) c = (fre M k c || nxt M k x c) := by
  unfold fre nxt
  rw [rst_succ M k h]
  have h1 := cnt_wo_le (rst M k) x.id c
  have h2 := cnt_rst_le M c k
  rw [Bool.eq_iff_iff]
  simp only [Bool.and_eq_true, Bool.or_eq_true, decide_eq_true_eq, beq_iff_eq]
  omega
theorem fre_nxt (M : List Snp) (k : Nat) (x : Snp) (c : Nat) : ¬ (fre M k c = true ∧ nxt M k x c = true) := by
  unfold fre nxt
  simp only [Bool.and_eq_true, decide_eq_true_eq, beq_iff_eq]
  omega
theorem frd_nxt (M : List Snp) (k : Nat) (x : Snp) : frd (rst M k) x.id = whr (nxt M k x) 65 := rfl
theorem fre_count (M : List Snp) (k : Nat) {x : Snp} (h : M[k]? = some x) : (whr (fre M (k + 1)) 65).length = (whr (fre M k) 65).length + (frd (rst M k) x.id).length := by
  rw [frd_nxt, ← whr_or _ _ (fre_nxt M k x)]
  congr 1
  exact whr_congr 65 fun c _ _ => fre_succ M k h c
theorem fre_all (M : List Snp) : (whr (fre M M.length) 65).length = dst M := by
  unfold dst usd
  congr 1
  refine whr_congr 65 fun c _ _ => ?_
  unfold fre
  rw [rst_all, cnt_nil]
  simp

/-- A row of bools. -/
def boolV (p : Nat → Bool) : List Value := (List.range 65).map (fun c => .bool (p c))
theorem boolV_at (p : Nat → Bool) (i : Nat) (h : i < 65) : (boolV p)[i]? = some (.bool (p i)) := by simp [boolV, h]
theorem boolV_congr {p q : Nat → Bool} (h : ∀ c, c ≤ 64 → p c = q c) : boolV p = boolV q := by
  unfold boolV
  refine List.map_congr_left fun c hc => ?_
  rw [h c (by have := List.mem_range.1 hc; omega)]
theorem boolV_set (p q : Nat → Bool) (i : Nat) (hq : q i = true) (h : ∀ c, c ≤ 64 → c ≠ i → q c = p c) : (boolV p).set i (.bool true) = boolV q := by
  refine List.ext_getElem? fun j => ?_
  by_cases hj : j < 65
  · rw [boolV_at q j hj]
    by_cases he : i = j
    · subst he
      rw [List.getElem?_set_self (by simp [boolV]; omega), hq]
    · rw [List.getElem?_set_ne he, boolV_at p j hj, h j (by omega) (Ne.symm he)]
  · rw [List.getElem?_eq_none (by simp [boolV]; omega), List.getElem?_eq_none (by simp [boolV]; omega)]

theorem Ov.cell1 {w : World} {base n c g : Nat} {E : TypeId} {vs : List Value} (h : Ov w base E 1 (some ⟨g, 0, none⟩) n c vs) (i : Nat) (hi : i < vs.length) : w.cell? ⟨g, i, none⟩ = vs[i]? := by
  have hl := h.len
  obtain ⟨g', he, _, _, _, hc, _⟩ := h.at_ (by omega)
  injection he with he
  injection he with he
  subst he
  rw [List.getElem?_eq_getElem hi]
  exact hc i _ (List.getElem?_eq_getElem hi)
theorem Ov.free1 {w : World} {base n c g size : Nat} {E : TypeId} {vs : List Value} (h : Ov w base E size (some ⟨g, 0, none⟩) n c vs) (i : Nat) : w.frozen? ⟨g, i, none⟩ = false := World.ownsRow.frozenAt h i
theorem Ov.set1 {w : World} {base n c g : Nat} {E : TypeId} {vs : List Value} (h : Ov w base E 1 (some ⟨g, 0, none⟩) n c vs) (i : Nat) (u : Value) : Ov (w.setCell ⟨g, i, none⟩ u) base E 1 (some ⟨g, 0, none⟩) n c (vs.set i u) := (World.ownsRow.stored h i u).1

abbrev TB : TypeId := 4
theorem infoB : (Try.prog.info? TB).map (fun i => (i.zero, i.size, i.bytes)) = some (some (.bool false), 1, 1) := by kernel_rfl
theorem made_false : (madeCells (Value.bool false).cells (65 * 1)).toList = boolV fun _ => false := by kernel_rfl
/-- 'make([]bool, 65)'. -/
theorem mkB {w : World} {ops : Array Oper} {rest : List Oper} {o : Oper} {a : Act} {Q : Exit → Act → World → Prop} (hgd : o.guard = none) (x y : Operand)
    (ho : o.op = Op.makeSlice 38 x y) (hx : a.eval x = .int .i64 65) (hy : a.eval y = .int .i64 65) {base : Nat} (hb : base ≤ w.heap.size)
    (h : ∀ w', Ov w' base TB 1 (some ⟨w.heap.size, 0, none⟩) 65 65 (boolV fun _ => false) → w.grownBy w' none → wpList Try.prog ops Q rest (a.put o.dst (.slice (some ⟨w.heap.size, 0, none⟩) 65 65)) w') : wpList Try.prog ops Q (o :: rest) a w := by
  obtain ⟨i, hi, hz, hsz, hby⟩ := info_parts infoB
  exact wpList_make_full w hgd x y _ ho base TB i (.bool false) 1 Try.underlying38 hi hz hsz .i64 .i64 65 65 65 hx hy rfl rfl (by rw [hby]; omega) (by decide) hb (fun w' ho' hg' => h w' (made_false ▸ ho') hg')

end Go.Proofs.Ytaaibgbblehngaa
