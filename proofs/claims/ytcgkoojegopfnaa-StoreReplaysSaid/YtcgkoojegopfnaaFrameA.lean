/- The walk of frame.Put. -/
import Derived.Test.YtcgkoojegopfnaaSumA
import Derived.Test.YtcgkoojegopfnaaApp
import Derived.Test.YtcgkoojegopfnaaFrame
namespace Go.Proofs.Ytcgkoojegopfnaa
open Go.RowKit

theorem put_bad (A : Option Addr) (n c : Nat) (w : World) (h : n = 0 ∨ 4096 < n) (hn : n ≤ 9223372036854775807) :
    Calls Try.prog 52 #[.slice A n c] w fun e w' => e = .returned (.tuple #[.slice none 0 0, .int .i64 4]) ∧ w = w' := by
  rcases h with rfl | h
  · go_enter Try.func52, Try.ntmps52
    go_wp2
    go_ret2
    exact ⟨rfl, rfl⟩
  · have h0 : ((n : Int) == 0) = false := by simp; omega
    go_enter Try.func52, Try.ntmps52
    go_wp2
    go_ret2
    exact ⟨rfl, rfl⟩

def PutOk (w : World) (x : List UInt8) (e : Ending) (w' : World) : Prop :=
  ∃ A c, e = .returned (.tuple #[.slice A (x.length + 6) c, .int .i64 0]) ∧ Own w' w.heap.size A (x.length + 6) c (fput x) ∧ Below w.heap.size w w'

theorem be2_cells (n : Nat) (h : n < 65536) : (#[Value.int .u8 ((n : Int) / 256), .int .u8 ((n : Int) % 256)] : Array Value).toList.take (be2 n).length = (be2 n).map bv := by
  simp [be2, bv, byteOf_toNat]
  omega

theorem be4_cells (q : Nat) (h : q < 4294967296) : (#[Value.int .u8 ((q : Int) / 16777216), .int .u8 ((q : Int) / 65536 % 256), .int .u8 ((q : Int) / 256 % 256), .int .u8 ((q : Int) % 256)] : Array Value).toList.take (be4 q).length = (be4 q).map bv := by
  simp [be4, bv, byteOf_toNat]
  omega

set_option maxHeartbeats 400000 in
theorem put_ok (A : Option Addr) (x : List UInt8) (n c : Nat) (w : World) (hn : x.length = n) (h0 : 0 < n) (h1 : n ≤ 4096) (hA : Bs w w.heap.size A x) :
    Calls Try.prog 52 #[.slice A n c] w (PutOk w x) := by
  have HN := Lib.hid hn
  clear hn
  have hz : ((n : Int) == 0) = false := by simp; omega
  have r0 := Below.refl w.heap.size w
  have hb2 := Lib.hid (be2_cells n (by omega))
  go_enter Try.func52, Try.ntmps52
  go_wp2_with (first
    | (at_make; refine mk0 rfl (.const (.int .i64 0)) (.tmp 17) rfl .i64 .i64 _ (n + 6) rfl rfl (by omega) (by omega) (Nat.le_refl _) ?_; intro w1 o1 g1; have b1 : Below w.heap.size w w1 := r0.grown g1 (Nat.le_refl _) (by simp))
    | (at_builtin; refine app rfl (.tmp 19) (.tmp 27) rfl rfl (o1.alloc _) rfl rfl (Bs.new (Nat.lt_succ_self _) hb2.out) (by omega) (Nat.le_trans b1.size (by simp)) ?_; intro A2 c2 w2 o2 g2 _; simp only [Nat.zero_add, List.nil_append] at o2; have b2 : Below w.heap.size w w2 := Own.grown (o1.alloc _) (b1.alloc b1.size _) g2; have s2 := hA.below b2)
    | (at_builtin; refine app rfl (.tmp 29) (.tmp 30) rfl rfl o2 rfl HN.out s2 (by omega) b2.size ?_; intro A3 c3 w3 o3 g3 _; have b3 : Below w.heap.size w w3 := Own.grown o2 b2 g3))
  have hfb : be2 n ++ x = fbody x := by rw [← HN.out]; rfl
  rw [hfb] at o3
  have hfl := Lib.hid (show (fbody x).length = 2 + n by rw [fbody_length, HN.out, Nat.add_comm])
  clear hfb g1 g2 g3 o1 o2 b1 b2 s2
  refine (sum_any A3 (fbody x) _ c3 _ hfl.out o3.bs (by rw [hfl.out]; omega)).mono ?_
  rintro e w4 ⟨rfl, d4⟩
  have o4 := o3.step d4
  have b4 := b3.trans (d4.mono b3.size)
  have hs := adler_bd 1 (fbody x)
  obtain ⟨q, hq⟩ : ∃ q : Nat, adler 1 (fbody x) = (q : Int) := ⟨_, (Int.toNat_of_nonneg hs.1).symm⟩
  have HQ := Lib.hid hq
  rw [hq]
  have hq2 : q < 4294967296 := by omega
  clear hq hs
  have hb4 := Lib.hid (be4_cells q hq2)
  have hL := Lib.hid (show 2 + n + 4 = x.length + 6 by rw [HN.out]; omega)
  have hfin := Lib.hid (show fbody x ++ be4 q = fput x by unfold fput; rw [HQ.out]; rfl)
  go_wp2_with (at_builtin; refine app rfl (.tmp 34) (.tmp 46) rfl rfl (o4.alloc _) rfl rfl (Bs.new (Nat.lt_succ_self _) hb4.out) (by omega) (Nat.le_trans b4.size (by simp)) ?_; intro A5 c5 w5 o5 g5 _; have b5 : Below w.heap.size w w5 := Own.grown (o4.alloc _) (b4.alloc b4.size _) g5)
  go_ret2
  refine ⟨A5, c5, by rw [← hL.out]; rfl, ?_, b5⟩
  rw [← hL.out, ← hfin.out]
  exact o5
end Go.Proofs.Ytcgkoojegopfnaa
