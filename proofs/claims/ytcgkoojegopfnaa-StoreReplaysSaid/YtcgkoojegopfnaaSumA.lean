/- The walk of sum.Go. -/
import Derived.Test.YtcgkoojegopfnaaProg
import Derived.Test.YtcgkoojegopfnaaBytes
import Derived.Test.YtcgkoojegopfnaaAdler
namespace Go.Proofs.Ytcgkoojegopfnaa
open Go.RowKit

set_option maxHeartbeats 400000 in
theorem go_any (s : Int) (A : Option Addr) (l : List UInt8) (n cap : Nat) (w : World) (hn : l.length = n) (h0 : 0 ≤ s) (h1 : s < 4294967296) (hA : Bs w w.heap.size A l) (hl : l.length ≤ 140737488351232) :
    Calls Try.prog 70 #[.int .u32 s, .slice A n cap] w fun e w' => e = .returned (.int .u32 (adler s l)) ∧ Below w.heap.size w w' := by
  subst hn
  go_enter Try.func70, Try.ntmps70
  go_wp2
  go_loopw [7, 17] (fun _ i wr => ∃ k : Nat, k ≤ l.length ∧ i = .int .i64 k ∧ Blk wr w.heap.size 105 #[.int .u32 (ak s l k).1, .int .u32 (ak s l k).2] ∧ Below w.heap.size w wr) (fun _ i _ => l.length - (intOf i).toNat)
  case atStart => exact ⟨0, by omega, rfl, Blk.new _ _ _, (Below.refl _ _).alloc (Nat.le_refl _) _⟩
  case round =>
    obtain ⟨k, hk, rfl, hblk, hb⟩ := hrel
    obtain ⟨a1, a2, a3, a4⟩ := ak_bd s l k
    have c0 := hblk.cell 0
    have c1 := hblk.cell 1
    have f0 := hblk.free 0
    have f1 := hblk.free 1
    simp at c0 c1
    by_cases hlt : k < l.length
    · obtain ⟨b, off, rfl, hbB, hc⟩ := hA (by omega)
      have hcx := (hb.cell (p := ⟨b, off + k, none⟩) hbB).trans (hc k hlt)
      have hbt : (l[k].toNat : Int) ≤ 255 := by have := l[k].toNat_lt; omega
      have hsucc := Lib.hid (ak_succ s l k hlt)
      go_wp2
      go_roundw
      case rel =>
        have e := hsucc.out
        simp only [List.getD_eq_getElem?_getD, List.getElem?_eq_getElem hlt, Option.getD_some] at e
        exact ⟨k + 1, by omega, by go_num, by rw [e]; simpa [astep] using (hblk.set 0 _).set 1 _, (hb.setCell (by simp) _).setCell (by simp) _⟩
      case measure => simp [intOf]; omega
    · obtain rfl : k = l.length := by omega
      have hv : 65536 * (ak s l l.length).2 + (ak s l l.length).1 = adler s l := ak_all s l
      have HV := Lib.hid hv
      clear hv
      go_wp2
      go_ret
      exact ⟨by rw [← HV.out]; rfl, hb⟩

theorem sum_any (A : Option Addr) (l : List UInt8) (n cap : Nat) (w : World) (hn : l.length = n) (hA : Bs w w.heap.size A l) (hl : l.length ≤ 140737488351232) :
    Calls Try.prog 65 #[.slice A n cap] w fun e w' => e = .returned (.int .u32 (adler 1 l)) ∧ Below w.heap.size w w' := by
  have HN := Lib.hid hn
  clear hn
  go_enter Try.func65, Try.ntmps65
  go_wp2_with fail
  refine (go_any 1 A l n cap _ HN.out (by omega) (by omega) hA hl).mono ?_
  rintro e w' ⟨rfl, hb⟩
  go_wp2
  go_ret
  exact ⟨rfl, hb⟩

theorem is_any (A : Option Addr) (l : List UInt8) (n cap : Nat) (s : Int) (w : World) (hn : l.length = n) (hA : Bs w w.heap.size A l) (hl : l.length ≤ 140737488351232) :
    Calls Try.prog 69 #[.slice A n cap, .int .u32 s] w fun e w' => e = .returned (.bool (adler 1 l == s)) ∧ Below w.heap.size w w' := by
  have HN := Lib.hid hn
  clear hn
  go_enter Try.func69, Try.ntmps69
  go_wp2_with fail
  refine (sum_any A l n cap _ HN.out hA hl).mono ?_
  rintro e w' ⟨rfl, hb⟩
  go_wp2
  go_ret
  exact ⟨rfl, hb⟩
end Go.Proofs.Ytcgkoojegopfnaa
