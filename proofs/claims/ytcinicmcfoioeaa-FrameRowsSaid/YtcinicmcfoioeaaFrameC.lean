/- The helpers of the laws of chapter 13: shown, short. -/
import Derived.Test.YtcinicmcfoioeaaFrameB
import Derived.Test.YtcinicmcfoioeaaStr
namespace Go.Proofs.Ytcinicmcfoioeaa
open Go.RowKit

/-- 'string(b)', at this program's tables. -/
theorem conv {w : World} {B n c : Nat} {A : Option Addr} {l : List UInt8} (hn : l.length = n) (hA : Bs w B A l) : (convert 22 9 (.slice A n c)).run Try.prog w = .ok (.string (strOf l)) w :=
  run_string_of _ _ _ Try.underlying22 Try.underlying5 Try.underlying9 hn hA

theorem short13_any (A : Option Addr) (l : List UInt8) (n cap : Nat) (w : World) (hn : l.length = n) (hcap : n ≤ cap) (hm : cap ≤ 9223372036854775807) :
    Calls Try.prog 20 #[.slice A n cap] w fun e w' => e = .returned (.slice A (l.take 9000).length cap) ∧ w = w' := by
  by_cases h : 9000 < n
  · have e : (l.take 9000).length = 9000 := by simp; omega
    rw [e]
    clear hn e
    go_enter Try.func20, Try.ntmps20
    go_wp2
    go_ret
    exact ⟨rfl, rfl⟩
  · have e : (l.take 9000).length = n := by simp; omega
    rw [e]
    clear hn e
    go_enter Try.func20, Try.ntmps20
    go_wp2
    go_ret
    exact ⟨rfl, rfl⟩

theorem fput7 : fput [7] = [0, 1, 7, 0, 12, 0, 9] := by decide +kernel

theorem shown13_any (w : World) :
    Calls Try.prog 19 #[] w fun e w' => e = .returned (.bool true) ∧ Below w.heap.size w w' := by
  have r0 := (Below.refl w.heap.size w).alloc (Nat.le_refl _) (.cells #[.int .u8 7] 5)
  have s0 : Bs (w.alloc (.cells #[.int .u8 7] 5)) (w.heap.size + 1) (some ⟨w.heap.size, 0, none⟩) [7] := Bs.new (Nat.lt_succ_self _) rfl
  go_enter Try.func19, Try.ntmps19
  go_wp2_with fail
  refine (put_ok _ [7] _ _ _ rfl (by decide) (by decide) (s0.more (by simp))).mono ?_
  rintro e w1 ⟨A, c, rfl, o1, b1⟩
  rw [fput7] at o1
  have hc := conv (n := 7) (c := c) rfl o1.bs
  have s1 : Bs (w1.alloc (.cells #[.int .u8 0, .int .u8 1, .int .u8 7, .int .u8 0, .int .u8 12, .int .u8 0, .int .u8 9] 5)) (w1.heap.size + 1) (some ⟨w1.heap.size, 0, none⟩) [0, 1, 7, 0, 12, 0, 9] := Bs.new (Nat.lt_succ_self _) rfl
  have hc2 := conv (n := 7) (c := 7) rfl s1
  go_wp2
  go_ret
  exact ⟨by simp, (r0.trans (b1.mono (by simp))).alloc (by have := b1.size; simp at this; omega) _⟩
end Go.Proofs.Ytcinicmcfoioeaa
