/- The walk of sum.Go. -/
import Derived.Test.YtcinicmcfoioeaaProg
import Derived.Test.YtcinicmcfoioeaaBytes
namespace Go.Proofs.Ytcinicmcfoioeaa
open Go.RowKit

def astep (p : Int × Int) (b : UInt8) : Int × Int := ((p.1 + b.toNat) % 65521, (p.2 + (p.1 + b.toNat) % 65521) % 65521)
def aval (p : Int × Int) : Int := 65536 * p.2 + p.1
def astart (s : Int) : Int × Int := (s % 65536 % 65521, s / 65536 % 65521)
def adler (s : Int) (l : List UInt8) : Int := aval (l.foldl astep (astart s))

theorem astep_bd (p : Int × Int) (b : UInt8) : 0 ≤ (astep p b).1 ∧ (astep p b).1 < 65521 ∧ 0 ≤ (astep p b).2 ∧ (astep p b).2 < 65521 := by unfold astep; simp only; omega
theorem astart_bd (s : Int) : 0 ≤ (astart s).1 ∧ (astart s).1 < 65521 ∧ 0 ≤ (astart s).2 ∧ (astart s).2 < 65521 := by unfold astart; simp only; omega
theorem afold_bd (l : List UInt8) : ∀ p : Int × Int, (0 ≤ p.1 ∧ p.1 < 65521 ∧ 0 ≤ p.2 ∧ p.2 < 65521) → 0 ≤ (l.foldl astep p).1 ∧ (l.foldl astep p).1 < 65521 ∧ 0 ≤ (l.foldl astep p).2 ∧ (l.foldl astep p).2 < 65521 := by
  induction l with
  | nil => intro p h; exact h
  | cons b l ih => intro p _; exact ih _ (astep_bd p b)
def ak (s : Int) (l : List UInt8) (k : Nat) : Int × Int := (l.take k).foldl astep (astart s)
theorem ak_zero (s : Int) (l : List UInt8) : ak s l 0 = astart s := rfl
theorem ak_all (s : Int) (l : List UInt8) : aval (ak s l l.length) = adler s l := by unfold ak adler; rw [List.take_length]
theorem ak_bd (s : Int) (l : List UInt8) (k : Nat) : 0 ≤ (ak s l k).1 ∧ (ak s l k).1 < 65521 ∧ 0 ≤ (ak s l k).2 ∧ (ak s l k).2 < 65521 := afold_bd _ _ (astart_bd s)
theorem ak_succ (s : Int) (l : List UInt8) (k : Nat) (h : k < l.length) : ak s l (k + 1) = astep (ak s l k) (l.getD k 0) := by
  unfold ak
  rw [List.take_succ_eq_append_getElem h, List.foldl_append]
  simp [List.getD, h]

set_option maxHeartbeats 400000 in
theorem go_any (s : Int) (A : Option Addr) (l : List UInt8) (n cap : Nat) (w : World) (hn : l.length = n) (h0 : 0 ≤ s) (h1 : s < 4294967296) (hA : Bs w w.heap.size A l) (hl : l.length ≤ 140737488351232) :
    Calls Try.prog 16 #[.int .u32 s, .slice A n cap] w fun e w' => e = .returned (.int .u32 (adler s l)) ∧ Below w.heap.size w w' := by
  subst hn
  go_enter Try.func16, Try.ntmps16
  go_wp2
  go_loopw [7, 17] (fun _ i wr => ∃ k : Nat, k ≤ l.length ∧ i = .int .i64 k ∧ Blk wr w.heap.size 46 #[.int .u32 (ak s l k).1, .int .u32 (ak s l k).2] ∧ Below w.heap.size w wr) (fun _ i _ => l.length - (intOf i).toNat)
  case atStart => exact ⟨0, by omega, rfl, Blk.new _ _ _, (Below.refl _ _).alloc (Nat.le_refl _) _⟩
  case round =>
    obtain ⟨k, hk, rfl, hblk, hb⟩ := hrel
    obtain ⟨a1, a2, a3, a4⟩ := ak_bd s l k
    have c0 := hblk.cell 0
    have c1 := hblk.cell 1
    have f0 := hblk.free 0
    have f1 := hblk.free 1
    simp at c0 c1
    by_cases hlt : k < l.length
    · obtain ⟨b, off, rfl, hbB, hc⟩ := hA (by omega)
      have hcx := (hb.cell (p := ⟨b, off + k, none⟩) hbB).trans (hc k hlt)
      have hbt : (l[k].toNat : Int) ≤ 255 := by have := l[k].toNat_lt; omega
      have hsucc := Lib.hid (ak_succ s l k hlt)
      go_wp2
      go_roundw
      case rel =>
        have e := hsucc.out
        simp only [List.getD_eq_getElem?_getD, List.getElem?_eq_getElem hlt, Option.getD_some] at e
        exact ⟨k + 1, by omega, by go_num, by rw [e]; simpa [astep] using (hblk.set 0 _).set 1 _, (hb.setCell (by simp) _).setCell (by simp) _⟩
      case measure => simp [intOf]; omega
    · obtain rfl : k = l.length := by omega
      have hv : 65536 * (ak s l l.length).2 + (ak s l l.length).1 = adler s l := ak_all s l
      have HV := Lib.hid hv
      clear hv
      go_wp2
      go_ret
      exact ⟨by rw [← HV.out]; rfl, hb⟩

theorem adler_bd (s : Int) (l : List UInt8) : 0 ≤ adler s l ∧ adler s l < 4294967296 := by
  have h := afold_bd l _ (astart_bd s)
  unfold adler aval
  omega

theorem sum_any (A : Option Addr) (l : List UInt8) (n cap : Nat) (w : World) (hn : l.length = n) (hA : Bs w w.heap.size A l) (hl : l.length ≤ 140737488351232) :
    Calls Try.prog 15 #[.slice A n cap] w fun e w' => e = .returned (.int .u32 (adler 1 l)) ∧ Below w.heap.size w w' := by
  have HN := Lib.hid hn
  clear hn
  go_enter Try.func15, Try.ntmps15
  go_wp2_with fail
  refine (go_any 1 A l n cap _ HN.out (by omega) (by omega) hA hl).mono ?_
  rintro e w' ⟨rfl, hb⟩
  go_wp2
  go_ret
  exact ⟨rfl, hb⟩

theorem is_any (A : Option Addr) (l : List UInt8) (n cap : Nat) (s : Int) (w : World) (hn : l.length = n) (hA : Bs w w.heap.size A l) (hl : l.length ≤ 140737488351232) :
    Calls Try.prog 18 #[.slice A n cap, .int .u32 s] w fun e w' => e = .returned (.bool (adler 1 l == s)) ∧ Below w.heap.size w w' := by
  have HN := Lib.hid hn
  clear hn
  go_enter Try.func18, Try.ntmps18
  go_wp2_with fail
  refine (sum_any A l n cap _ HN.out hA hl).mono ?_
  rintro e w' ⟨rfl, hb⟩
  go_wp2
  go_ret
  exact ⟨rfl, hb⟩
end Go.Proofs.Ytcinicmcfoioeaa
