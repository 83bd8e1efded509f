/- Put of any record, the program's and the reference's. -/
import Derived.Test.YtcinicmcfoioeaaFrameR
namespace Go.Proofs.Ytcinicmcfoioeaa
open Go.RowKit

def PutAny (w : World) (x : List UInt8) (e : Ending) (w' : World) : Prop :=
  ∃ A c, e = .returned (.tuple #[.slice A (fp x).1.length c, .int .i64 (fp x).2]) ∧ Own w' w.heap.size A (fp x).1.length c (fp x).1 ∧ Below w.heap.size w w'

theorem put_any (A : Option Addr) (x : List UInt8) (n c : Nat) (w : World) (hn : x.length = n) (hm : n ≤ 9223372036854775807) (hA : Bs w w.heap.size A x) :
    Calls Try.prog 21 #[.slice A n c] w (PutAny w x) := by
  by_cases h : n = 0 ∨ 4096 < n
  · have hf : fp x = ([], 4) := by unfold fp; rw [if_pos (by rw [hn]; exact h)]
    refine (put_bad A n c w h hm).mono ?_
    rintro e w' ⟨rfl, rfl⟩
    exact ⟨none, 0, by rw [hf]; rfl, by rw [hf]; exact Ob.nil_ _ _ _, Below.refl _ _⟩
  · have hf : fp x = (fput x, 0) := by unfold fp; rw [if_neg (by rw [hn]; exact h)]
    refine (put_ok A x n c w hn (by omega) (by omega) hA).mono ?_
    rintro e w' ⟨A1, c1, rfl, o1, b1⟩
    exact ⟨A1, c1, by rw [hf, fput_length]; rfl, by rw [hf, fput_length]; exact o1, b1⟩

theorem rput_any (A : Option Addr) (x : List UInt8) (n c : Nat) (w : World) (hn : x.length = n) (hm : n ≤ 9223372036854775807) (hA : Bs w w.heap.size A x) :
    Calls Try.prog 24 #[.slice A n c] w (PutAny w x) := by
  by_cases h : n = 0 ∨ 4096 < n
  · have hf : fp x = ([], 4) := by unfold fp; rw [if_pos (by rw [hn]; exact h)]
    refine (rput_bad A n c w h hm).mono ?_
    rintro e w' ⟨rfl, rfl⟩
    exact ⟨none, 0, by rw [hf]; rfl, by rw [hf]; exact Ob.nil_ _ _ _, Below.refl _ _⟩
  · have hf : fp x = (fput x, 0) := by unfold fp; rw [if_neg (by rw [hn]; exact h)]
    refine (rput_ok A x n c w hn (by omega) (by omega) hA).mono ?_
    rintro e w' ⟨A1, c1, rfl, o1, b1⟩
    exact ⟨A1, c1, by rw [hf, fput_length]; rfl, by rw [hf, fput_length]; exact o1, b1⟩
end Go.Proofs.Ytcinicmcfoioeaa
