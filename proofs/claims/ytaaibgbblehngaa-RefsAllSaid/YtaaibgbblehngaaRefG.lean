/- The walk of the laws' helper shown (chapter 06). -/
import Derived.Test.YtaaibgbblehngaaRefF
namespace Go.Proofs.Ytaaibgbblehngaa
open Go.RowKit

def ex06 : List Snp := [⟨1, 0, [3, 5], false, ⟨#[]⟩⟩, ⟨2, 0, [5], false, ⟨#[]⟩⟩]
theorem ex06_few : Few ex06 := by unfold Few ex06; decide
theorem ex06_frd : frd ex06 1 = [3] := by decide +kernel
theorem ex06_dst : dst ex06 = 2 := by decide +kernel

theorem ex06_sn (w : World) : Sn (((w.alloc (.cells #[.int .i64 3, .int .i64 5] 3)).alloc (.cells #[.int .i64 5] 3)).alloc (.cells #[.int .i64 1, .int .i64 0, .slice (some ⟨w.heap.size, 0, none⟩) 2 2, .bool false, .string ⟨#[]⟩, .int .i64 2, .int .i64 0, .slice (some ⟨w.heap.size + 1, 0, none⟩) 1 1, .bool false, .string ⟨#[]⟩] 42)) (w.heap.size + 3) (some ⟨w.heap.size + 2, 0, none⟩) ex06 := by
  have r1 : Is (w.alloc (.cells #[.int .i64 3, .int .i64 5] 3)) (w.heap.size + 1) (some ⟨w.heap.size, 0, none⟩) [3, 5] := Rd.new (Nat.lt_succ_self _) rfl
  have r2 : Is ((w.alloc (.cells #[.int .i64 3, .int .i64 5] 3)).alloc (.cells #[.int .i64 5] 3)) ((w.alloc (.cells #[.int .i64 3, .int .i64 5] 3)).heap.size + 1) (some ⟨(w.alloc (.cells #[.int .i64 3, .int .i64 5] 3)).heap.size, 0, none⟩) [5] := Rd.new (Nat.lt_succ_self _) rfl
  rw [World.size_alloc] at r2
  generalize hw1 : w.alloc (.cells #[.int .i64 3, .int .i64 5] 3) = w1 at *
  have s1 : w1.heap.size = w.heap.size + 1 := by rw [← hw1, World.size_alloc]
  generalize hw2 : w1.alloc (.cells #[.int .i64 5] 3) = w2 at *
  have s2 : w2.heap.size = w.heap.size + 2 := by rw [← hw2, World.size_alloc, s1]
  have b2 : Below (w.heap.size + 1) w1 w2 := by rw [← hw2]; exact (Below.refl _ _).alloc (by omega) _
  have r1' := r1.below b2
  have b3 : ∀ o, Below (w.heap.size + 2) w2 (w2.alloc o) := fun o => (Below.refl _ _).alloc (by omega) _
  refine ⟨[.int .i64 1, .int .i64 0, .slice (some ⟨w.heap.size, 0, none⟩) 2 2, .bool false, .string ⟨#[]⟩, .int .i64 2, .int .i64 0, .slice (some ⟨w.heap.size + 1, 0, none⟩) 1 1, .bool false, .string ⟨#[]⟩], rfl, ?_, fun i x hx => ?_⟩
  · rw [← s2]
    exact (Rd.new (Nat.lt_succ_self _) rfl).more (by omega)
  · match i, hx with
    | 0, hx =>
      obtain rfl : ({ id := 1, set := 0, chunks := [3, 5], held := false, tag := ⟨#[]⟩ } : Snp) = x := by simpa [ex06] using hx
      exact ⟨some ⟨w.heap.size, 0, none⟩, 2, rfl, rfl, rfl, rfl, rfl, by decide, by decide, ((r1'.more (by omega)).below (b3 _)).more (by omega)⟩
    | 1, hx =>
      obtain rfl : ({ id := 2, set := 0, chunks := [5], held := false, tag := ⟨#[]⟩ } : Snp) = x := by simpa [ex06] using hx
      exact ⟨some ⟨w.heap.size + 1, 0, none⟩, 1, rfl, rfl, rfl, rfl, rfl, by decide, by decide, ((r2.more (by omega)).below (b3 _)).more (by omega)⟩
    | i + 2, hx => simp [ex06] at hx

set_option maxHeartbeats 800000 in
theorem shown06_any (w : World) :
    Calls Try.prog 18 #[] w fun e w' => e = .returned (.bool true) ∧ Below w.heap.size w w' := by
  have hs := ex06_sn w
  have hb : Below w.heap.size w (((w.alloc (.cells #[.int .i64 3, .int .i64 5] 3)).alloc (.cells #[.int .i64 5] 3)).alloc (.cells #[.int .i64 1, .int .i64 0, .slice (some ⟨w.heap.size, 0, none⟩) 2 2, .bool false, .string ⟨#[]⟩, .int .i64 2, .int .i64 0, .slice (some ⟨w.heap.size + 1, 0, none⟩) 1 1, .bool false, .string ⟨#[]⟩] 42)) :=
    (((Below.refl _ _).alloc (Nat.le_refl _) _).alloc (by simp) _).alloc (by simp; omega) _
  go_enter Try.func18, Try.ntmps18
  go_wp2_with fail
  generalize hw3 : (((w.alloc (.cells #[.int .i64 3, .int .i64 5] 3)).alloc (.cells #[.int .i64 5] 3)).alloc (.cells #[.int .i64 1, .int .i64 0, .slice (some ⟨w.heap.size, 0, none⟩) 2 2, .bool false, .string ⟨#[]⟩, .int .i64 2, .int .i64 0, .slice (some ⟨w.heap.size + 1, 0, none⟩) 1 1, .bool false, .string ⟨#[]⟩] 42)) = w3 at *
  have hz : w3.heap.size = w.heap.size + 3 := by rw [← hw3]; simp
  clear hw3
  rw [← hz] at hs
  have HZ := Lib.hid hz
  clear hz
  refine (freed_any _ ex06 2 2 1 _ rfl (Lib.hid ex06_few) hs).mono ?_
  rintro e w4 ⟨A4, n4, c4, rfl, o4, f4⟩
  rw [ex06_frd] at o4
  obtain rfl : n4 = 1 := (IsRow.len o4).symm
  have b4 := hb.trans (f4.mono hb.size)
  have hs4 := hs.step f4
  clear hs f4
  go_wp2_with fail
  refine (distinct_any _ ex06 2 2 _ rfl (Lib.hid ex06_few) hs4).mono ?_
  rintro e w5 ⟨rfl, f5⟩
  rw [ex06_dst]
  have o5 := o4.step f5
  have b5 := b4.trans (f5.mono b4.size)
  obtain ⟨b, off, rfl, _, hc⟩ := (show Is w5 w5.heap.size A4 [3] from o5.rd).at_ (k := 0) (by decide)
  have hc0 : w5.cell? ⟨b, off, none⟩ = some (.int .i64 3) := hc
  clear hc o4 o5 hs4 f5
  go_wp2_with fail
  go_ret
  exact ⟨rfl, b5⟩
end Go.Proofs.Ytaaibgbblehngaa
