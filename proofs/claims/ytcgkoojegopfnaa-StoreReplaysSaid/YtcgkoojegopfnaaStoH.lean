/- The walks of the laws' helpers shown and record (chapter 15), and of SameRecord at like records. -/
import Derived.Test.YtcgkoojegopfnaaStoTk
namespace Go.Proofs.Ytcgkoojegopfnaa
open Go.RowKit
set_option linter.unusedSimpArgs false
set_option linter.unusedVariables false

theorem vsize_3 (n : Nat) (h : n < 2097152) : vsize n ≤ 3 := by
  have := (vsize_last 2 n (by omega)).1 (by have : (128 : Nat) ^ 2 = 16384 := by decide
                                            omega)
  omega
theorem rBytes_210 {r : Rcd} (h : rOk r = true) : (rBytes r).length ≤ 205 := by
  obtain ⟨h1, h2, h3, h4, h5, h6, h7⟩ := rOk_spec h
  obtain ⟨b1, b2, b3, b4, b5, b6, b7⟩ := rOk_bd h
  have v1 := vsize_3 r.a.toNat (by omega)
  have v2 := vsize_3 r.b.toNat (by omega)
  have v3 : r.kind = 3 → vsize r.a.toNat = 1 := fun hk => vsize_small _ (by
    rw [hk] at h4
    have : (kd 3).most = 64 := rfl
    omega)
  have v4 : r.kind ≠ 3 → r.x.length = 0 := fun hk => by rw [b7 hk]; rfl
  unfold vsize at v1 v2 v3
  unfold rBytes
  simp only [List.length_append, List.length_cons, List.length_nil]
  by_cases hk : r.kind = 3
  · have := v3 hk
    split <;> simp <;> omega
  · have := v4 hk
    split <;> simp <;> omega
theorem shown15_put : rPut ⟨2, 3, 2, []⟩ = ([2, 3, 2], 0) := by decide +kernel

set_option maxRecDepth 100000 in
set_option maxHeartbeats 800000 in
theorem shown15_any (w : World) :
    Calls Try.prog 26 #[] w fun e w' => e = .returned (.bool true) ∧ Below w.heap.size w w' := by
  go_enter Try.func26, Try.ntmps26
  go_wp2_with fail
  refine (sput_any ⟨2, 3, 2, []⟩ none 0 0 _ rfl (by omega) Bs.nil (by decide) (by decide)).mono ?_
  rintro e w1 ⟨A, n, c, rfl, o1, b1⟩
  rw [shown15_put] at o1 ⊢
  have h1 := conv (c := c) o1.1 o1.bs
  have hb := (Below.refl w1.heap.size w1).alloc (Nat.le_refl _) (.cells #[.int .u8 2, .int .u8 3, .int .u8 2] 5)
  have h2 := conv (c := 3) (l := [2, 3, 2]) (n := 3) rfl ((Bs.new (w := w1) (C := #[.int .u8 2, .int .u8 3, .int .u8 2]) (t := 5) (fr := (0, 0)) (B := w1.heap.size + 1) (Nat.lt_succ_self _) rfl))
  clear o1
  go_wp2_with fail
  go_ret
  exact ⟨by simp, b1.trans (hb.mono b1.size)⟩

set_option maxRecDepth 100000 in
set_option maxHeartbeats 800000 in
theorem record_any (r : Rcd) (X : Option Addr) (m c mb : Nat) (w : World) (hmb : mb = min m 250) (hmc : m ≤ c) (hc : c ≤ maxLen) :
    Calls Try.prog 30 #[.agg #[.int .i64 r.kind, .int .i64 r.a, .int .i64 r.b, .slice X m c]] w fun e w' => e = .returned (.agg #[.int .i64 r.kind, .int .i64 r.a, .int .i64 r.b, .slice X mb c]) ∧ Below w.heap.size w w' := by
  unfold maxLen at hc
  by_cases h25 : 250 < m
  · obtain rfl : mb = 250 := by omega
    have h25c : 250 ≤ c := by omega
    clear hmb
    go_enter Try.func30, Try.ntmps30
    go_wp2_with fail
    exact bodyPost_ret (v := .agg #[.int .i64 r.kind, .int .i64 r.a, .int .i64 r.b, .slice X 250 c]) (by simp [results, Try.results30, go_sem]) rfl ⟨rfl, by
      have hb := (Below.refl w.heap.size w).alloc (Nat.le_refl _) (.cells #[.int .i64 r.kind, .int .i64 r.a, .int .i64 r.b, .slice X 250 c] TRec)
      exact hb.alloc hb.size _⟩
  · obtain rfl : mb = m := by omega
    clear hmb
    go_enter Try.func30, Try.ntmps30
    go_wp2_with fail
    exact bodyPost_ret (v := .agg #[.int .i64 r.kind, .int .i64 r.a, .int .i64 r.b, .slice X mb c]) (by simp [results, Try.results30, go_sem]) rfl ⟨rfl, by
      have hb := (Below.refl w.heap.size w).alloc (Nat.le_refl _) (.cells #[.int .i64 r.kind, .int .i64 r.a, .int .i64 r.b, .slice X mb c] TRec)
      exact hb.alloc hb.size _⟩

set_option maxRecDepth 100000 in
set_option maxHeartbeats 800000 in
theorem sameRec_any (r : Rcd) (X Y : Option Addr) (m c n cn : Nat) (w : World) (hm : r.x.length = m) (hn : r.x.length = n) (hX : Bs w w.heap.size X r.x) (hY : Bs w w.heap.size Y r.x) :
    Calls Try.prog 33 #[.agg #[.int .i64 r.kind, .int .i64 r.a, .int .i64 r.b, .slice X m c], .agg #[.int .i64 r.kind, .int .i64 r.a, .int .i64 r.b, .slice Y n cn]] w fun e w' => e = .returned (.bool true) ∧ Below w.heap.size w w' := by
  have hb1 := (Below.refl w.heap.size w).alloc (Nat.le_refl _) (.cells #[.int .i64 r.kind, .int .i64 r.a, .int .i64 r.b, .slice X m c] TRec)
  have hb2 := hb1.alloc hb1.size (.cells #[.int .i64 r.kind, .int .i64 r.a, .int .i64 r.b, .slice Y n cn] TRec)
  have h1 := conv (c := c) hm (hX.step hb2)
  have h2 := conv (c := cn) hn (hY.step hb2)
  have HB := Lib.hid hb2
  clear hm hn hb1 hb2
  go_enter Try.func33, Try.ntmps33
  go_wp2_with fail
  go_ret
  exact ⟨by simp, HB.out⟩
end Go.Proofs.Ytcgkoojegopfnaa
