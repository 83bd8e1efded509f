/- Plain facts: how often all chunks are used together; chunks that are not used. -/
import Derived.Test.YtaaibgbblehngaaRefH
namespace Go.Proofs.Ytaaibgbblehngaa
open Go.RowKit

def smf (f : Nat → Nat) : Nat → Nat
  | 0 => 0
  | k + 1 => smf f k + if 1 ≤ k then f k else 0
theorem smf_add (f g : Nat → Nat) (k : Nat) : smf (fun c => f c + g c) k = smf f k + smf g k := by
  induction k with
  | zero => rfl
  | succ k ih => simp only [smf, ih]; split <;> omega
theorem smf_congr {f g : Nat → Nat} (k : Nat) (h : ∀ c, 1 ≤ c → c < k → f c = g c) : smf f k = smf g k := by
  induction k with
  | zero => rfl
  | succ k ih =>
    simp only [smf, ih fun c h1 h2 => h c h1 (by omega)]
    split
    · rw [h k (by assumption) (by omega)]
    · rfl
theorem smf_zero (k : Nat) : smf (fun _ => 0) k = 0 := by
  induction k with
  | zero => rfl
  | succ k ih => simp [smf, ih]
theorem smf_one (a : Int) (k : Nat) : smf (fun c => if a = (c : Int) then 1 else 0) k = if 1 ≤ a ∧ a < (k : Int) then 1 else 0 := by
  induction k with
  | zero => simp only [smf]; rw [if_neg (by omega)]
  | succ k ih =>
    simp only [smf, ih]
    repeat' split
    all_goals omega

/-- How many chunks l has that are some. -/
def hvl (l : List Int) : Nat := l.countP (fun n => decide (1 ≤ n) && decide (n ≤ 64))
def hv (L : List Snp) : Nat := (L.map (fun x => hvl x.chunks)).sum
theorem hvl_take (l : List Int) (k : Nat) (h : k < l.length) : hvl (l.take (k + 1)) = hvl (l.take k) + if (1 ≤ l.getD k 0 ∧ l.getD k 0 ≤ 64) then 1 else 0 := by
  unfold hvl
  rw [List.take_succ_eq_append_getElem h, List.countP_append, List.getD_eq_getElem?_getD, List.getElem?_eq_getElem h]
  simp [List.countP_cons]
theorem hvl_le (l : List Int) : hvl l ≤ l.length := List.countP_le_length
theorem hv_take (L : List Snp) (k : Nat) {x : Snp} (h : L[k]? = some x) : hv (L.take (k + 1)) = hv (L.take k) + hvl x.chunks := by
  obtain ⟨hk, rfl⟩ := List.getElem?_eq_some_iff.1 h
  unfold hv
  rw [List.take_succ_eq_append_getElem hk, List.map_append, List.sum_append]
  simp
theorem occ_cons (a : Int) (l : List Int) (c : Nat) (h : 1 ≤ c) : occ (a :: l) c = (if a = (c : Int) then 1 else 0) + occ l c := by
  have hc0 : c ≠ 0 := by omega
  simp only [occ, hc0, if_false, List.countP_cons]
  by_cases h : a = (c : Int)
  · simp [h]; omega
  · simp [h]
theorem smf_occ (l : List Int) : smf (occ l) 65 = hvl l := by
  induction l with
  | nil => rw [smf_congr (g := fun _ => 0) 65 (fun c _ _ => occ_nil c), smf_zero]; rfl
  | cons a l ih =>
    rw [smf_congr (g := fun c => (if a = (c : Int) then 1 else 0) + occ l c) 65 (fun c h _ => occ_cons a l c h), smf_add, smf_one, ih]
    unfold hvl
    rw [List.countP_cons]
    by_cases h : 1 ≤ a ∧ a < ((65 : Nat) : Int)
    · rw [if_pos h]
      have h1 : decide (1 ≤ a) = true := by simp; omega
      have h2 : decide (a ≤ 64) = true := by simp; omega
      rw [h1, h2]
      simp; omega
    · rw [if_neg h]
      have h1 : (decide (1 ≤ a) && decide (a ≤ 64)) = false := by
        rw [Bool.eq_false_iff]
        intro hh
        simp at hh
        omega
      rw [h1]
      simp
theorem smf_cnt (L : List Snp) : smf (cnt L) 65 = hv L := by
  induction L with
  | nil => rw [smf_congr (g := fun _ => 0) 65 (fun c _ _ => cnt_nil c), smf_zero]; rfl
  | cons a L ih =>
    have e : ∀ c, cnt (a :: L) c = occ a.chunks c + cnt L c := fun c => by simp [cnt]
    rw [smf_congr 65 (fun c _ _ => e c), smf_add, smf_occ, ih]
    simp [hv]
theorem whr_smf (f : Nat → Nat) (k : Nat) : (whr (fun c => decide (0 < f c)) k).length ≤ smf f k := by
  induction k with
  | zero => simp [whr]
  | succ k ih =>
    rw [whr_succ, List.length_append]
    simp only [smf]
    by_cases h1 : 1 ≤ k
    · rw [if_pos h1]
      split
      · rename_i h; simp at h; simp; omega
      · simp; omega
    · rw [if_neg h1]
      split
      · rename_i h; simp at h; omega
      · simp; omega
theorem dst_hv (L : List Snp) : dst L ≤ hv L := by
  rw [← smf_cnt]
  exact whr_smf _ _
theorem whr_le1 (p : Nat → Bool) (k : Nat) : (whr p (k + 1)).length ≤ k := by
  induction k with
  | zero => rw [whr_one]; simp
  | succ k ih =>
    rw [whr_succ, List.length_append]
    split <;> simp <;> omega
theorem dst_64 (L : List Snp) : dst L ≤ 64 := whr_le1 _ _
theorem Few.hv {L : List Snp} (h : Few L) : hv L ≤ 10000 := by
  obtain ⟨h1, h2⟩ := h
  have key : ∀ L : List Snp, (∀ x ∈ L, x.chunks.length ≤ 100) → Go.Proofs.Ytaaibgbblehngaa.hv L ≤ 100 * L.length := by
    intro L
    induction L with
    | nil => intro _; simp [Go.Proofs.Ytaaibgbblehngaa.hv]
    | cons a L ih =>
      intro h
      have h1 := ih fun x hx => h x (List.mem_cons_of_mem _ hx)
      have h2 := h a List.mem_cons_self
      have h3 := hvl_le a.chunks
      have e : Go.Proofs.Ytaaibgbblehngaa.hv (a :: L) = hvl a.chunks + Go.Proofs.Ytaaibgbblehngaa.hv L := by simp [Go.Proofs.Ytaaibgbblehngaa.hv]
      rw [e, List.length_cons]
      omega
  have := key L h2
  omega
theorem Few.take {L : List Snp} (h : Few L) (k : Nat) : Few (L.take k) := ⟨by rw [List.length_take]; have := h.1; omega, fun x hx => h.2 x (List.mem_of_mem_take hx)⟩

theorem sorted_ext : ∀ {a b : List Int}, a.Pairwise (· < ·) → b.Pairwise (· < ·) → (∀ x, x ∈ a ↔ x ∈ b) → a = b
  | [], [], _, _, _ => rfl
  | [], y :: b, _, _, h => absurd ((h y).2 List.mem_cons_self) (by simp)
  | x :: a, [], _, _, h => absurd ((h x).1 List.mem_cons_self) (by simp)
  | x :: a, y :: b, ha, hb, h => by
    obtain ⟨ha1, ha2⟩ := List.pairwise_cons.1 ha
    obtain ⟨hb1, hb2⟩ := List.pairwise_cons.1 hb
    have e : x = y := by
      rcases List.mem_cons.1 ((h x).1 List.mem_cons_self) with e | hx
      · exact e
      · rcases List.mem_cons.1 ((h y).2 List.mem_cons_self) with e | hy
        · exact e.symm
        · have := hb1 x hx; have := ha1 y hy; omega
    subst e
    congr 1
    refine sorted_ext ha2 hb2 fun z => ?_
    constructor
    · intro hz
      rcases List.mem_cons.1 ((h z).1 (List.mem_cons_of_mem _ hz)) with e | h'
      · subst e; have := ha1 z hz; omega
      · exact h'
    · intro hz
      rcases List.mem_cons.1 ((h z).2 (List.mem_cons_of_mem _ hz)) with e | h'
      · subst e; have := hb1 z hz; omega
      · exact h'
theorem whr_mem (s : List Int) (hs : s.Pairwise (· < ·)) (h : ∀ x ∈ s, 1 ≤ x ∧ x ≤ 64) : whr (fun c => s.contains (c : Int)) 65 = s := by
  refine sorted_ext (whr_sorted _ _) hs fun x => ?_
  rw [mem_whr]
  constructor
  · rintro ⟨c, rfl, _, _, hc⟩
    exact List.contains_iff_mem.1 hc
  · intro hx
    obtain ⟨h1, h2⟩ := h x hx
    exact ⟨x.toNat, by omega, by omega, by omega, by rw [Int.toNat_of_nonneg (by omega)]; exact List.contains_iff_mem.2 hx⟩
theorem occ_contains (s : List Int) (c : Nat) (h : 1 ≤ c) : decide (0 < occ s c) = s.contains (c : Int) := by
  rw [Bool.eq_iff_iff, decide_eq_true_eq, List.contains_iff_mem]
  unfold occ
  rw [if_neg (by omega), List.countP_pos_iff]
  simp
/-- With chunks that are not used yet, as many more are used. -/
theorem usd_free (L : List Snp) (s : List Int) (hs : s.Pairwise (· < ·)) (h : ∀ x ∈ s, 1 ≤ x ∧ x ≤ 64) (hz : ∀ c : Nat, (c : Int) ∈ s → cnt L c = 0) : (usd (fun c => cnt L c + occ s c)).length = dst L + s.length := by
  unfold usd
  rw [whr_congr (q := fun c => decide (0 < cnt L c) || s.contains (c : Int)) 65 fun c h1 _ => ?_, whr_or, whr_mem s hs h]
  · rfl
  · rintro c ⟨h1, h2⟩
    have := hz c (List.contains_iff_mem.1 h2)
    simp at h1
    omega
  · rw [← occ_contains s c h1, Bool.eq_iff_iff]
    simp
    omega
/-- The first five chunks below k that are not used. -/
def unu (L : List Snp) (k : Nat) : List Int := (whr (fun c => cnt L c == 0) k).take 5
theorem unu_one (L : List Snp) : unu L 1 = [] := by unfold unu; rw [whr_one]; rfl
theorem unu_succ (L : List Snp) (k : Nat) (h : 1 ≤ k) : unu L (k + 1) = if cnt L k = 0 ∧ (unu L k).length < 5 then unu L k ++ [((k : Nat) : Int)] else unu L k := by
  unfold unu
  rw [whr_succ]
  by_cases h1 : cnt L k = 0
  · rw [if_pos (by simp [h, h1])]
    by_cases h2 : ((whr (fun c => cnt L c == 0) k).take 5).length < 5
    · rw [if_pos ⟨h1, h2⟩]
      rw [List.length_take] at h2
      rw [List.take_of_length_le (by rw [List.length_append]; simp; omega), List.take_of_length_le (by omega)]
    · rw [if_neg (by omega)]
      rw [List.length_take] at h2
      rw [List.take_append_of_le_length (by omega)]
  · rw [if_neg (by simp [h1]), List.append_nil, if_neg (by omega)]
theorem unu_le (L : List Snp) (k : Nat) : (unu L k).length ≤ 5 := by unfold unu; rw [List.length_take]; omega
theorem unu_usd (L : List Snp) : (usd (fun c => cnt L c + occ (unu L 65) c)).length = dst L + (unu L 65).length := by
  refine usd_free L _ ?_ (fun x hx => ?_) (fun c hc => ?_)
  · exact (whr_sorted _ _).sublist (List.take_sublist _ _)
  · obtain ⟨c, rfl, h1, h2, _⟩ := mem_whr.1 (List.mem_of_mem_take hx)
    omega
  · obtain ⟨d, hd, _, _, hp⟩ := mem_whr.1 (List.mem_of_mem_take hc)
    obtain rfl : c = d := by omega
    simpa using hp

end Go.Proofs.Ytaaibgbblehngaa
