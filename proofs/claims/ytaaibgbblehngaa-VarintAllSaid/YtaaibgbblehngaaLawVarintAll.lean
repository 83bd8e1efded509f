/- The walk of the law VarintAll. -/
import Derived.Test.YtaaibgbblehngaaVintS
import Derived.Test.YtaaibgbblehngaaVintV
import Derived.Deep.DeepCutAuto
namespace Go.Proofs.Ytaaibgbblehngaa
open Go.RowKit

set_option maxRecDepth 10000 in
set_option maxHeartbeats 1600000 in
theorem all_nat (w : World) (x : Nat) (hx : Hid (x < 18446744073709551616)) (k : Int) (hk : -9223372036854775808 ≤ k ∧ k ≤ 9223372036854775807) (A : Option Addr) (l : List UInt8) (n cap : Nat) (hn : l.length = n) (hcap : n ≤ cap) (hm : cap ≤ maxLen) (hA : Bs w w.heap.size A l) :
    Calls Try.prog 7 #[.int .u64 x, .int .i64 k, .slice A n cap] w fun e w' => e = .returned (.bool true) ∧ Below w.heap.size w w' := by
  unfold maxLen at hm
  obtain ⟨m, hmm⟩ : ∃ m, m = min n 30 := ⟨_, rfl⟩
  have hlm : (l.take 30).length = m := by rw [List.length_take]; omega
  have HM := Lib.hid hmm
  have hmn : m ≤ n := by omega
  have hm30 : m ≤ 30 := by omega
  have hT := hA.take 30
  clear hn hmm
  generalize hl' : l.take 30 = t at *
  have HT := Lib.hid hlm
  clear hlm hl'
  go_enter Try.func7, Try.ntmps7
  go_wp2_with fail
  refine (shown01_any _).mono ?_
  rintro e w1 ⟨rfl, b1⟩
  have r1 := hT.step b1
  clear hT hA
  go_upto_if 17 with (fail)
  go_cut [2] (fun s wx => s = .slice A m cap ∧ wx = w1)
  case first =>
    by_cases h30 : 30 < n
    · obtain rfl : m = 30 := by have := HM.out; omega
      have h30c : 30 ≤ cap := by omega
      go_wp2_with fail
      go_meet
      exact ⟨rfl, rfl⟩
    · obtain rfl : m = n := by have := HM.out; omega
      go_wp2_with fail
      go_meet
      exact ⟨rfl, rfl⟩
  case rest =>
    obtain ⟨rfl, rfl⟩ := hcut
    go_wp2_with fail
    refine (vtake_any A t m cap _ HT.out (by omega) r1).mono ?_
    rintro e w2 ⟨rfl, rfl⟩
    go_wp2_with fail
    refine (rtake_any A t m cap _ HT.out (by omega) (by omega) r1).mono ?_
    rintro e w3 ⟨rfl, f2⟩
    have b2 := chain b1 f2
    generalize (vtake t).1 = q1 at *
    generalize (vtake t).2.1 = q2 at *
    generalize (vtake t).2.2 = q3 at *
    clear r1
    go_wp2_with fail
    refine wp_region_inv (by kernel_rfl) [.val (.bool true), .val (.bool true), .val (.int .u64 (x : Nat)), .bs (vput x), .val (.string (strOf (vput x))), .val (.int .u64 (x : Nat)), .bs (vput x), .val (.string (strOf (vput x))), .val (.bool true), .val (.bool true), .val (.bool true), .val (.int .u64 (x : Nat)), .val (.int .i64 (vsize x : Nat)), .val (.int .u64 (x : Nat)), .val (.int .i64 (vsize x : Nat)), .val (.bool true), .val (.bool true), .val (.bool true), .val (.int .u64 (q1 : Nat)), .val (.int .u64 (q1 : Nat)), .val (.bool true), .val (.bool true), .val (.bool true), .val (.int .i64 (q2 : Nat)), .val (.int .i64 (q2 : Nat)), .val (.bool true), .val (.bool true), .val (.bool true), .val (.int .i64 (q3 : Nat)), .val (.int .i64 (q3 : Nat)), .val (.bool true), .val (.bool true), .val (.bool true), .val (.int .i64 k), .val (.int .u64 (zig k : Nat)), .val (.int .i64 k), .val (.int .u64 (zig k : Nat)), .val (.bool true), .val (.bool true), .val (.bool true), .val (.int .u64 (x : Nat)), .val (.int .i64 (zag x)), .val (.int .u64 (x : Nat)), .val (.int .i64 (zag x)), .val (.bool true), .val (.bool true), .val (.bool true)] (T := ?T) (by kernel_rfl) (by kernel_rfl) ?hT ?hask ?hend
    case hT =>
      intro vs
      simp only [fill, Act.put, List.setIfInBounds_toArray, List.set_cons_succ, List.set_cons_zero, Nat.reduceAdd]
      exact rfl
    case hask =>
      iterate 3 (refine askI_cons (fun vs w1 hb hd => ?_) ?_; (focus (simp only [DepI, Region.binds, SlI, List.getD_cons_zero, List.getD_cons_succ, Sl.val, Sl.bs, and_true] at hd; go_simp; exact gives_pure rfl)))
      refine askI_cons (fun vs w1 hb hd => ?_) ?_
      · simp only [DepI, Region.binds, SlI, List.getD_cons_zero, List.getD_cons_succ, Sl.val, Sl.bs, and_true] at hd
        go_simp
        refine gives_enter ((vput_any x _ hx).mono ?_)
        rintro e w2 ⟨P, c2, rfl, o2, f2⟩
        exact ⟨_, rfl, f2, P, _, c2, rfl, rfl, o2.cap.1, o2.cap.2, o2.bs⟩
      refine askI_cons (fun vs w1 hb hd => ?_) ?_
      · obtain ⟨A1, n1, c1, h1, h2, h3, h4, h5⟩ := hd.1
        have h6 := conv (c := c1) h2 h5
        clear h2 h3 h4 h5
        simp only [DepI, Region.binds, SlI, List.getD_cons_zero, List.getD_cons_succ, Sl.val, Sl.bs, and_true] at hd
        go_simp
        exact gives_pure rfl
      refine askI_cons (fun vs w1 hb hd => ?_) ?_; (focus (simp only [DepI, Region.binds, SlI, List.getD_cons_zero, List.getD_cons_succ, Sl.val, Sl.bs, and_true] at hd; go_simp; exact gives_pure rfl))
      refine askI_cons (fun vs w1 hb hd => ?_) ?_
      · simp only [DepI, Region.binds, SlI, List.getD_cons_zero, List.getD_cons_succ, Sl.val, Sl.bs, and_true] at hd
        go_simp
        refine gives_enter ((rput_any x _ hx).mono ?_)
        rintro e w2 ⟨P, c2, rfl, o2, f2⟩
        exact ⟨_, rfl, f2, P, _, c2, rfl, rfl, o2.cap.1, o2.cap.2, o2.bs⟩
      refine askI_cons (fun vs w1 hb hd => ?_) ?_
      · obtain ⟨A1, n1, c1, h1, h2, h3, h4, h5⟩ := hd.1
        have h6 := conv (c := c1) h2 h5
        clear h2 h3 h4 h5
        simp only [DepI, Region.binds, SlI, List.getD_cons_zero, List.getD_cons_succ, Sl.val, Sl.bs, and_true] at hd
        go_simp
        exact gives_pure rfl
      iterate 4 (refine askI_cons (fun vs w1 hb hd => ?_) ?_; (focus (simp only [DepI, Region.binds, SlI, List.getD_cons_zero, List.getD_cons_succ, Sl.val, Sl.bs, and_true] at hd; go_simp; exact gives_pure rfl)))
      refine askI_cons (fun vs w1 hb hd => ?_) ?_
      · simp only [DepI, Region.binds, SlI, List.getD_cons_zero, List.getD_cons_succ, Sl.val, Sl.bs, and_true] at hd
        go_simp
        refine gives_enter ((size_any x _ hx).mono ?_)
        rintro e w2 ⟨rfl, rfl⟩
        exact ⟨_, rfl, Below.refl _ _, rfl⟩
      refine askI_cons (fun vs w1 hb hd => ?_) ?_; (focus (simp only [DepI, Region.binds, SlI, List.getD_cons_zero, List.getD_cons_succ, Sl.val, Sl.bs, and_true] at hd; go_simp; exact gives_pure rfl))
      refine askI_cons (fun vs w1 hb hd => ?_) ?_
      · simp only [DepI, Region.binds, SlI, List.getD_cons_zero, List.getD_cons_succ, Sl.val, Sl.bs, and_true] at hd
        go_simp
        refine gives_enter ((rsize_any x _ hx).mono ?_)
        rintro e w2 ⟨rfl, b5⟩
        exact ⟨_, rfl, b5, rfl⟩
      iterate 19 (refine askI_cons (fun vs w1 hb hd => ?_) ?_; (focus (simp only [DepI, Region.binds, SlI, List.getD_cons_zero, List.getD_cons_succ, Sl.val, Sl.bs, and_true] at hd; go_simp; exact gives_pure rfl)))
      refine askI_cons (fun vs w1 hb hd => ?_) ?_
      · simp only [DepI, Region.binds, SlI, List.getD_cons_zero, List.getD_cons_succ, Sl.val, Sl.bs, and_true] at hd
        go_simp
        refine gives_enter ((zig_any k _ hk).mono ?_)
        rintro e w2 ⟨rfl, rfl⟩
        exact ⟨_, rfl, Below.refl _ _, rfl⟩
      refine askI_cons (fun vs w1 hb hd => ?_) ?_; (focus (simp only [DepI, Region.binds, SlI, List.getD_cons_zero, List.getD_cons_succ, Sl.val, Sl.bs, and_true] at hd; go_simp; exact gives_pure rfl))
      refine askI_cons (fun vs w1 hb hd => ?_) ?_
      · simp only [DepI, Region.binds, SlI, List.getD_cons_zero, List.getD_cons_succ, Sl.val, Sl.bs, and_true] at hd
        go_simp
        refine gives_enter ((rzig_any k _ hk).mono ?_)
        rintro e w2 ⟨rfl, rfl⟩
        exact ⟨_, rfl, Below.refl _ _, rfl⟩
      iterate 4 (refine askI_cons (fun vs w1 hb hd => ?_) ?_; (focus (simp only [DepI, Region.binds, SlI, List.getD_cons_zero, List.getD_cons_succ, Sl.val, Sl.bs, and_true] at hd; go_simp; exact gives_pure rfl)))
      refine askI_cons (fun vs w1 hb hd => ?_) ?_
      · simp only [DepI, Region.binds, SlI, List.getD_cons_zero, List.getD_cons_succ, Sl.val, Sl.bs, and_true] at hd
        go_simp
        refine gives_enter ((zag_any x _ hx).mono ?_)
        rintro e w2 ⟨rfl, rfl⟩
        exact ⟨_, rfl, Below.refl _ _, rfl⟩
      refine askI_cons (fun vs w1 hb hd => ?_) ?_; (focus (simp only [DepI, Region.binds, SlI, List.getD_cons_zero, List.getD_cons_succ, Sl.val, Sl.bs, and_true] at hd; go_simp; exact gives_pure rfl))
      refine askI_cons (fun vs w1 hb hd => ?_) ?_
      · simp only [DepI, Region.binds, SlI, List.getD_cons_zero, List.getD_cons_succ, Sl.val, Sl.bs, and_true] at hd
        go_simp
        refine gives_enter ((rzag_any x _ hx).mono ?_)
        rintro e w2 ⟨rfl, rfl⟩
        exact ⟨_, rfl, Below.refl _ _, rfl⟩
      iterate 3 (refine askI_cons (fun vs w1 hb hd => ?_) ?_; (focus (simp only [DepI, Region.binds, SlI, List.getD_cons_zero, List.getD_cons_succ, Sl.val, Sl.bs, and_true] at hd; go_simp; exact gives_pure rfl)))
      exact askI_nil
    case hend =>
      intro vs w1 hb hd
      simp only [AllI, SlI, List.getD_cons_zero, List.getD_cons_succ, Sl.val, Sl.bs, and_true, Nat.reduceAdd] at hd
      have hlast := hd.2.2.2.2.2.2.2.2.2.2.2.2.2.2.2.2.2.2.2.2.2.2.2.2.2.2.2.2.2.2.2.2.2.2.2.2.2.2.2.2.2.2.2.2.2.2
      clear hd
      have d2 := b2.trans (hb.mono b2.size)
      go_wp2
      go_ret
      exact ⟨by simp [hlast], d2⟩

theorem varintAll_walk (w : World) (a : Int) (ha : 0 ≤ a ∧ a ≤ 18446744073709551615) (k : Int) (hk : -9223372036854775808 ≤ k ∧ k ≤ 9223372036854775807) (A : Option Addr) (l : List UInt8) (n cap : Nat) (hn : l.length = n) (hcap : n ≤ cap) (hm : cap ≤ maxLen) (hA : Bs w w.heap.size A l) :
    Calls Try.prog 7 #[.int .u64 a, .int .i64 k, .slice A n cap] w fun e w' => e = .returned (.bool true) ∧ Below w.heap.size w w' := by
  obtain ⟨x, rfl⟩ := Int.eq_ofNat_of_zero_le ha.1
  exact all_nat w x (Lib.hid (by omega)) k hk A l n cap hn hcap hm hA
end Go.Proofs.Ytaaibgbblehngaa
