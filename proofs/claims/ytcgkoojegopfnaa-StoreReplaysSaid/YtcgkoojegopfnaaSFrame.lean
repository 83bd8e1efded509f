/- The walks of frame.Put, and of its reference. -/
import Derived.Test.YtcgkoojegopfnaaFrameB
import Derived.Test.YtcgkoojegopfnaaSSum
namespace Go.Proofs.Ytcgkoojegopfnaa
open Go.RowKit

theorem frput_bad (A : Option Addr) (n c : Nat) (w : World) (h : n = 0 ∨ 4096 < n) (hn : n ≤ 9223372036854775807) :
    Calls Try.prog 54 #[.slice A n c] w fun e w' => e = .returned (.tuple #[.slice none 0 0, .int .i64 4]) ∧ w = w' := by
  rcases h with rfl | h
  · go_enter Try.func54, Try.ntmps54
    go_wp2
    go_ret2
    exact ⟨rfl, rfl⟩
  · have h0 : ((n : Int) == 0) = false := by simp; omega
    go_enter Try.func54, Try.ntmps54
    go_wp2
    go_ret2
    exact ⟨rfl, rfl⟩

set_option maxHeartbeats 400000 in
theorem frput_ok (A : Option Addr) (x : List UInt8) (n c : Nat) (w : World) (hn : x.length = n) (h0 : 0 < n) (h1 : n ≤ 4096) (hA : Bs w w.heap.size A x) :
    Calls Try.prog 54 #[.slice A n c] w (PutOk w x) := by
  have HN := Lib.hid hn
  clear hn
  have hz : ((n : Int) == 0) = false := by simp; omega
  have r0 := Below.refl w.heap.size w
  have hb2 := Lib.hid (be2_cells n (by omega))
  go_enter Try.func54, Try.ntmps54
  go_wp2_with (at_builtin; refine app rfl (.tmp 22) (.tmp 23) rfl rfl (Ob.lit (be2_length n) hb2.out rfl (Nat.le_refl _) (by omega)) rfl HN.out (hA.below (r0.alloc (Nat.le_refl _) _)) (by omega) (by simp) ?_; intro A3 c3 w3 o3 g3 _; have b3 : Below w.heap.size w w3 := Own.grown (Ob.lit (be2_length n) hb2.out rfl (Nat.le_refl _) (by omega)) (r0.alloc (Nat.le_refl _) _) g3)
  have hfb : be2 n ++ x = fbody x := by rw [← HN.out]; rfl
  rw [hfb] at o3
  have hfl := Lib.hid (show (fbody x).length = 2 + n by rw [fbody_length, HN.out, Nat.add_comm])
  clear hfb g3
  refine (rsum_any A3 (fbody x) _ c3 _ hfl.out o3.bs (by rw [hfl.out]; omega)).mono ?_
  rintro e w4 ⟨rfl, d4⟩
  have o4 := o3.step d4
  have b4 := b3.trans (d4.mono b3.size)
  have hs := adler_bd 1 (fbody x)
  obtain ⟨q, hq⟩ : ∃ q : Nat, adler 1 (fbody x) = (q : Int) := ⟨_, (Int.toNat_of_nonneg hs.1).symm⟩
  have HQ := Lib.hid hq
  rw [hq]
  have hq2 : q < 4294967296 := by omega
  clear hq hs
  have hb4 := Lib.hid (be4_cells q hq2)
  have hL := Lib.hid (show 2 + n + 4 = x.length + 6 by rw [HN.out]; omega)
  have hfin := Lib.hid (show fbody x ++ be4 q = fput x by unfold fput; rw [HQ.out]; rfl)
  go_wp2_with (at_builtin; refine app rfl (.tmp 27) (.tmp 39) rfl rfl (o4.alloc _) rfl rfl (Bs.new (Nat.lt_succ_self _) hb4.out) (by omega) (Nat.le_trans b4.size (by simp)) ?_; intro A5 c5 w5 o5 g5 _; have b5 : Below w.heap.size w w5 := Own.grown (o4.alloc _) (b4.alloc b4.size _) g5)
  go_ret2
  refine ⟨A5, c5, by rw [← hL.out]; rfl, ?_, b5⟩
  rw [← hL.out, ← hfin.out]
  exact o5

def PutAny (w : World) (x : List UInt8) (e : Ending) (w' : World) : Prop :=
  ∃ A c, e = .returned (.tuple #[.slice A (fp x).1.length c, .int .i64 (fp x).2]) ∧ Own w' w.heap.size A (fp x).1.length c (fp x).1 ∧ Below w.heap.size w w'

theorem fput_any (A : Option Addr) (x : List UInt8) (n c : Nat) (w : World) (hn : x.length = n) (hm : n ≤ 9223372036854775807) (hA : Bs w w.heap.size A x) :
    Calls Try.prog 52 #[.slice A n c] w (PutAny w x) := by
  by_cases h : n = 0 ∨ 4096 < n
  · have hf : fp x = ([], 4) := by unfold fp; rw [if_pos (by rw [hn]; exact h)]
    refine (put_bad A n c w h hm).mono ?_
    rintro e w' ⟨rfl, rfl⟩
    exact ⟨none, 0, by rw [hf]; rfl, by rw [hf]; exact Ob.nil_ _ _ _, Below.refl _ _⟩
  · have hf : fp x = (fput x, 0) := by unfold fp; rw [if_neg (by rw [hn]; exact h)]
    refine (put_ok A x n c w hn (by omega) (by omega) hA).mono ?_
    rintro e w' ⟨A1, c1, rfl, o1, b1⟩
    exact ⟨A1, c1, by rw [hf, fput_length]; rfl, by rw [hf, fput_length]; exact o1, b1⟩

theorem frput_any (A : Option Addr) (x : List UInt8) (n c : Nat) (w : World) (hn : x.length = n) (hm : n ≤ 9223372036854775807) (hA : Bs w w.heap.size A x) :
    Calls Try.prog 54 #[.slice A n c] w (PutAny w x) := by
  by_cases h : n = 0 ∨ 4096 < n
  · have hf : fp x = ([], 4) := by unfold fp; rw [if_pos (by rw [hn]; exact h)]
    refine (frput_bad A n c w h hm).mono ?_
    rintro e w' ⟨rfl, rfl⟩
    exact ⟨none, 0, by rw [hf]; rfl, by rw [hf]; exact Ob.nil_ _ _ _, Below.refl _ _⟩
  · have hf : fp x = (fput x, 0) := by unfold fp; rw [if_neg (by rw [hn]; exact h)]
    refine (frput_ok A x n c w hn (by omega) (by omega) hA).mono ?_
    rintro e w' ⟨A1, c1, rfl, o1, b1⟩
    exact ⟨A1, c1, by rw [hf, fput_length]; rfl, by rw [hf, fput_length]; exact o1, b1⟩
end Go.Proofs.Ytcgkoojegopfnaa
