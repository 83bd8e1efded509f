/- The walk of the laws' helper shown (chapter 14). -/
import Derived.Test.YtcgkoojegopfnaaDiskD
import Derived.Test.YtcgkoojegopfnaaReg
import Derived.Test.YtcgkoojegopfnaaStr
namespace Go.Proofs.Ytcgkoojegopfnaa
open Go.RowKit

/-- 'string(b)', at this program's tables. -/
theorem conv {w : World} {B n c : Nat} {A : Option Addr} {l : List UInt8} (hn : l.length = n) (hA : Bs w B A l) : (convert 22 9 (.slice A n c)).run Try.prog w = .ok (.string (strOf l)) w :=
  run_string_of _ _ _ Try.underlying22 Try.underlying5 Try.underlying9 hn hA

theorem Dk.ge {w : World} {base g : Nat} {q : Option Nat} {d : Dsk} (h : Dk w base g q d) : base ≤ g := h.1
theorem Dk.qge {w : World} {base g : Nat} {q : Option Nat} {d : Dsk} (h : Dk w base g q d) : ∀ k, q = some k → base ≤ k := fun k hk => (h.q_lt k hk).1

set_option maxRecDepth 100000 in
set_option maxHeartbeats 1600000 in
theorem shown14_any (w : World) :
    Calls Try.prog 12 #[] w fun e w' => e = .returned (.bool true) ∧ Below w.heap.size w w' := by
  go_enter Try.func12, Try.ntmps12
  go_wp2_with fail
  refine (new_any _).mono ?_
  rintro e w0 ⟨g, rfl, d0, b0⟩
  go_wp2_with fail
  have d0' := d0.step ((Below.refl w0.heap.size w0).alloc (Nat.le_refl _) (.cells #[.int .u8 1, .int .u8 2] 5))
  have b0' := b0.alloc b0.size (.cells #[.int .u8 1, .int .u8 2] 5)
  refine (append_any w.heap.size g none dNew _ [1, 2] 2 2 _ d0' b0'.size rfl ((Bs.new (B := w0.heap.size + 1) (Nat.lt_succ_self _) rfl).more (by simp))).mono ?_
  rintro e w1 ⟨q1, rfl, d1, t1, _⟩
  have b1 := Touch.below b0' t1 d0.ge (by simp)
  have e1 : dAppend dNew [1, 2] = (⟨[1, 2], 0, false, false, 0⟩, 0) := rfl
  rw [e1] at d1 ⊢
  clear e1 d0 d0' b0 b0' t1
  go_wp2_with fail
  refine (sync_any w.heap.size g q1 _ _ d1).mono ?_
  rintro e w2 ⟨q2, rfl, d2, t2, _⟩
  have b2 := Touch.below b1 t2 d1.ge d1.qge
  have e2 : dSync ⟨[1, 2], 0, false, false, 0⟩ = (⟨[1, 2], 2, false, false, 0⟩, 0) := rfl
  rw [e2] at d2 ⊢
  clear e2 d1 b1 t2
  go_wp2_with fail
  have d2' := d2.step ((Below.refl w2.heap.size w2).alloc (Nat.le_refl _) (.cells #[.int .u8 3, .int .u8 4] 5))
  have b2' := b2.alloc b2.size (.cells #[.int .u8 3, .int .u8 4] 5)
  refine (append_any w.heap.size g q2 _ _ [3, 4] 2 2 _ d2' b2'.size rfl ((Bs.new (B := w2.heap.size + 1) (Nat.lt_succ_self _) rfl).more (by simp))).mono ?_
  rintro e w3 ⟨q3, rfl, d3, t3, _⟩
  have b3 := Touch.below b2' t3 d2.ge d2.qge
  have e3 : dAppend ⟨[1, 2], 2, false, false, 0⟩ [3, 4] = (⟨[1, 2, 3, 4], 2, false, false, 0⟩, 0) := rfl
  rw [e3] at d3 ⊢
  clear e3 d2 d2' b2 b2' t3
  go_wp2_with fail
  refine (crash_any w.heap.size g q3 _ 1 _ d3).mono ?_
  rintro e w4 ⟨q4, rfl, d4, t4, _⟩
  have b4 := Touch.below b3 t4 d3.ge d3.qge
  have e4 : dCrash ⟨[1, 2, 3, 4], 2, false, false, 0⟩ 1 = ⟨[1, 2, 3], 3, true, false, 0⟩ := rfl
  rw [e4] at d4
  clear e4 d3 b3 t4
  go_wp2_with fail
  refine wp_region_inv (by kernel_rfl) [.val (.int .i64 0), .val (.bool true), .val (.bool true), .val (.int .i64 0), .val (.bool true), .val (.bool true), .val (.bool true), .val (.int .i64 0), .val (.bool true), .val (.bool true), .val (.bool true), .val (.pointer (some ⟨g, 0, none⟩)), .bs [1, 2, 3], .val (.string (strOf [1, 2, 3])), .bs [1, 2, 3], .val (.string (strOf [1, 2, 3])), .val (.bool true), .val (.bool true), .val (.bool true), .val (.pointer (some ⟨g, 0, none⟩)), .val (.bool true), .val (.bool true), .val (.bool true), .val (.pointer (some ⟨g, 0, none⟩)), .val (.int .i64 3), .val (.bool true), .val (.bool true), .val (.bool true)] (T := ?T) (by kernel_rfl) (by kernel_rfl) ?hT ?hask ?hend
  case hT =>
    intro vs
    simp only [fill, Act.put, List.setIfInBounds_toArray, List.set_cons_succ, List.set_cons_zero, Nat.reduceAdd]
    exact rfl
  case hask =>
    iterate 12 (refine askI_cons (fun vs w1 hb hd => ?_) ?_; (focus (simp only [DepI, Region.binds, SlI, List.getD_cons_zero, List.getD_cons_succ, Sl.val, Sl.bs, and_true] at hd; go_simp; exact gives_pure rfl)))
    refine askI_cons (fun vs w1 hb hd => ?_) ?_
    · simp only [DepI, Region.binds, SlI, List.getD_cons_zero, List.getD_cons_succ, Sl.val, Sl.bs, and_true] at hd
      go_simp
      refine gives_enter ((bytes_any w.heap.size g q4 ⟨[1, 2, 3], 3, true, false, 0⟩ _ (d4.step hb)).mono ?_)
      rintro e w2 ⟨P, n2, c2, rfl, o2, f2⟩
      exact ⟨_, rfl, f2, P, _, c2, rfl, o2.1, o2.cap.1, o2.cap.2, o2.bs⟩
    refine askI_cons (fun vs w1 hb hd => ?_) ?_
    · obtain ⟨A1, n1, c1, h1, h2, h3, h4, h5⟩ := hd.1
      have h6 := conv (c := c1) h2 h5
      clear h2 h3 h4 h5
      simp only [DepI, Region.binds, SlI, List.getD_cons_zero, List.getD_cons_succ, Sl.val, Sl.bs, and_true] at hd
      go_simp
      exact gives_pure rfl
    refine askI_cons (fun vs w1 hb hd => ?_) ?_
    · simp only [DepI, Region.binds, SlI, List.getD_cons_zero, List.getD_cons_succ, Sl.val, Sl.bs, and_true] at hd
      go_simp
      exact gives_value ((Below.refl _ _).alloc (Nat.le_refl _) _) ⟨_, _, _, rfl, rfl, by omega, by decide, Bs.new (by simp) rfl⟩
    refine askI_cons (fun vs w1 hb hd => ?_) ?_
    · obtain ⟨A1, n1, c1, h1, h2, h3, h4, h5⟩ := hd.1
      have h6 := conv (c := c1) h2 h5
      clear h2 h3 h4 h5
      simp only [DepI, Region.binds, SlI, List.getD_cons_zero, List.getD_cons_succ, Sl.val, Sl.bs, and_true] at hd
      go_simp
      exact gives_pure rfl
    iterate 4 (refine askI_cons (fun vs w1 hb hd => ?_) ?_; (focus (simp only [DepI, Region.binds, SlI, List.getD_cons_zero, List.getD_cons_succ, Sl.val, Sl.bs, and_true] at hd; go_simp; exact gives_pure rfl)))
    refine askI_cons (fun vs w1 hb hd => ?_) ?_
    · simp only [DepI, Region.binds, SlI, List.getD_cons_zero, List.getD_cons_succ, Sl.val, Sl.bs, and_true] at hd
      go_simp
      refine gives_enter ((down_any w.heap.size g q4 ⟨[1, 2, 3], 3, true, false, 0⟩ _ (d4.step hb)).mono ?_)
      rintro e w2 ⟨rfl, rfl⟩
      exact ⟨_, rfl, Below.refl _ _, rfl⟩
    iterate 3 (refine askI_cons (fun vs w1 hb hd => ?_) ?_; (focus (simp only [DepI, Region.binds, SlI, List.getD_cons_zero, List.getD_cons_succ, Sl.val, Sl.bs, and_true] at hd; go_simp; exact gives_pure rfl)))
    refine askI_cons (fun vs w1 hb hd => ?_) ?_
    · simp only [DepI, Region.binds, SlI, List.getD_cons_zero, List.getD_cons_succ, Sl.val, Sl.bs, and_true] at hd
      go_simp
      refine gives_enter ((synced_any w.heap.size g q4 ⟨[1, 2, 3], 3, true, false, 0⟩ _ (d4.step hb)).mono ?_)
      rintro e w2 ⟨rfl, rfl⟩
      exact ⟨_, rfl, Below.refl _ _, rfl⟩
    iterate 3 (refine askI_cons (fun vs w1 hb hd => ?_) ?_; (focus (simp only [DepI, Region.binds, SlI, List.getD_cons_zero, List.getD_cons_succ, Sl.val, Sl.bs, and_true] at hd; go_simp; exact gives_pure rfl)))
    exact askI_nil
  case hend =>
    intro vs w1 hb hd
    simp only [AllI, SlI, List.getD_cons_zero, List.getD_cons_succ, Sl.val, Sl.bs, and_true, Nat.reduceAdd] at hd
    have hlast := hd.2.2.2.2.2.2.2.2.2.2.2.2.2.2.2.2.2.2.2.2.2.2.2.2.2.2.2
    clear hd
    have b9 := b4.trans (hb.mono b4.size)
    go_wp2
    go_ret
    exact ⟨by simp [hlast], b9⟩
end Go.Proofs.Ytcgkoojegopfnaa
