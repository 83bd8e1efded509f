/- Which chunks are used, as plain functions. -/
import Derived.Test.YtaaibgbblehngaaSnap
namespace Go.Proofs.Ytaaibgbblehngaa
open Go.RowKit

/-- How often l has the chunk c; those that are none are not looked at. -/
def occ (l : List Int) (c : Nat) : Nat := if c = 0 then 0 else l.countP (fun n => n == (c : Int))
def cnt (L : List Snp) (c : Nat) : Nat := (L.map (fun x => occ x.chunks c)).sum
/-- A table of 65 numbers. -/
def tabV (f : Nat → Nat) : Array Value := ((List.range 65).map (fun c => iv ((f c : Nat) : Int))).toArray

theorem occ_nil (c : Nat) : occ [] c = 0 := by unfold occ; split <;> simp
theorem occ_take (l : List Int) (k c : Nat) (h : k < l.length) : occ (l.take (k + 1)) c = occ (l.take k) c + if (l.getD k 0 = (c : Int) ∧ c ≠ 0) then 1 else 0 := by
  unfold occ
  by_cases hc : c = 0
  · simp [hc]
  · rw [if_neg hc, if_neg hc, List.take_succ_eq_append_getElem h, List.countP_append, List.getD_eq_getElem?_getD, List.getElem?_eq_getElem h]
    simp [hc, List.countP_cons]
theorem occ_le (l : List Int) (c : Nat) : occ l c ≤ l.length := by
  unfold occ
  split
  · omega
  · exact List.countP_le_length
theorem cnt_nil (c : Nat) : cnt [] c = 0 := rfl
theorem cnt_append (L M : List Snp) (c : Nat) : cnt (L ++ M) c = cnt L c + cnt M c := by simp [cnt]
theorem cnt_one (x : Snp) (c : Nat) : cnt [x] c = occ x.chunks c := by simp [cnt]
theorem cnt_take (L : List Snp) (k c : Nat) {x : Snp} (h : L[k]? = some x) : cnt (L.take (k + 1)) c = cnt (L.take k) c + occ x.chunks c := by
  obtain ⟨hk, rfl⟩ := List.getElem?_eq_some_iff.1 h
  rw [List.take_succ_eq_append_getElem hk, cnt_append, cnt_one]
/-- Few snapshots with few chunks each. -/
def Few (L : List Snp) : Prop := L.length ≤ 100 ∧ ∀ x ∈ L, x.chunks.length ≤ 100
theorem Few.cnt {L : List Snp} (h : Few L) (c : Nat) : cnt L c ≤ 10000 := by
  obtain ⟨h1, h2⟩ := h
  have key : ∀ L : List Snp, (∀ x ∈ L, x.chunks.length ≤ 100) → Go.Proofs.Ytaaibgbblehngaa.cnt L c ≤ 100 * L.length := by
    intro L
    induction L with
    | nil => intro _; simp [cnt_nil]
    | cons a L ih =>
      intro h
      have h1 := ih fun x hx => h x (List.mem_cons_of_mem _ hx)
      have h2 := h a List.mem_cons_self
      have h3 := occ_le a.chunks c
      have e : Go.Proofs.Ytaaibgbblehngaa.cnt (a :: L) c = occ a.chunks c + Go.Proofs.Ytaaibgbblehngaa.cnt L c := by simp [Go.Proofs.Ytaaibgbblehngaa.cnt]
      rw [e, List.length_cons]
      omega
  have := key L h2
  omega

theorem tabV_size (f : Nat → Nat) : (tabV f).size = 65 := by simp [tabV]
theorem tabV_at (f : Nat → Nat) (i : Nat) (h : i < 65) : (tabV f)[i]? = some (.int .i64 ((f i : Nat) : Int)) := by simp [tabV, h, iv]
theorem tabV_congr {f g : Nat → Nat} (h : ∀ c, c ≤ 64 → f c = g c) : tabV f = tabV g := by
  unfold tabV
  congr 1
  refine List.map_congr_left fun c hc => ?_
  rw [h c (by have := List.mem_range.1 hc; omega)]
theorem tabV_set (f g : Nat → Nat) (i : Nat) (v : Value) (hv : v = .int .i64 ((g i : Nat) : Int)) (h : ∀ c, c ≤ 64 → c ≠ i → g c = f c) : (tabV f).setIfInBounds i v = tabV g := by
  refine Array.ext_getElem? fun j => ?_
  by_cases hj : j < 65
  · rw [tabV_at g j hj]
    by_cases hi : i = j
    · subst hi
      rw [Array.getElem?_setIfInBounds_self_of_lt (by rw [tabV_size]; exact hj), hv]
    · rw [Array.getElem?_setIfInBounds_ne hi, tabV_at f j hj, h j (by omega) (Ne.symm hi)]
  · rw [Array.getElem?_eq_none (by simp [tabV_size]; omega), Array.getElem?_eq_none (by simp [tabV_size]; omega)]
theorem tabV_one (f : Nat → Nat) : ∀ v ∈ (tabV f).toList, v.oneCell' = true := by
  intro v hv
  simp only [tabV, List.mem_map] at hv
  obtain ⟨c, _, rfl⟩ := hv
  rfl
theorem tabV_all (f : Nat → Nat) : (tabV f).all (·.oneCell') = true := by
  rw [Array.all_eq_true_iff_forall_mem]
  intro v hv
  exact tabV_one f v (by simpa using hv)

/-- The chunks of which something is so, rising. -/
def whr (p : Nat → Bool) (k : Nat) : List Int := ((List.range k).filter (fun c => decide (1 ≤ c) && p c)).map (fun c => ((c : Nat) : Int))
theorem whr_succ (p : Nat → Bool) (k : Nat) : whr p (k + 1) = whr p k ++ if (decide (1 ≤ k) && p k) = true then [((k : Nat) : Int)] else [] := by
  unfold whr
  rw [List.range_succ, List.filter_append, List.map_append]
  congr 1
  by_cases h : (decide (1 ≤ k) && p k) = true
  · rw [if_pos h]
    simp only [List.filter_cons, List.filter_nil, h, if_true, List.map_cons, List.map_nil]
  · rw [if_neg h]
    simp only [List.filter_cons, List.filter_nil, if_neg h, List.map_nil]
theorem whr_le (p : Nat → Bool) (k : Nat) : (whr p k).length ≤ k := by
  unfold whr
  rw [List.length_map]
  exact Nat.le_trans (List.length_filter_le _ _) (by simp)
theorem whr_one (p : Nat → Bool) : whr p 1 = [] := by
  rw [whr_succ]; simp [whr]
theorem whr_congr {p q : Nat → Bool} (k : Nat) (h : ∀ c, 1 ≤ c → c < k → p c = q c) : whr p k = whr q k := by
  unfold whr
  congr 1
  refine List.filter_congr fun c hc => ?_
  have := List.mem_range.1 hc
  by_cases h1 : 1 ≤ c
  · rw [h c h1 this]
  · simp [h1]

end Go.Proofs.Ytaaibgbblehngaa
