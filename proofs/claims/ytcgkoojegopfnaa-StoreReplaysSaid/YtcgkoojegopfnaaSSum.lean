/- The walks of the reference of sums. -/
import Derived.Test.YtcgkoojegopfnaaSumA
import Derived.Lib.SlBytesConst
namespace Go.Proofs.Ytcgkoojegopfnaa
open Go.RowKit

set_option maxHeartbeats 400000 in
theorem rgo_any (s : Int) (A : Option Addr) (l : List UInt8) (n cap : Nat) (w : World) (hn : l.length = n) (h0 : 0 ≤ s) (h1 : s < 4294967296) (hA : Bs w w.heap.size A l) (hl : l.length ≤ 140737488351232) :
    Calls Try.prog 71 #[.int .u32 s, .slice A n cap] w fun e w' => e = .returned (.int .u32 (adler s l)) ∧ Below w.heap.size w w' := by
  subst hn
  go_enter Try.func71, Try.ntmps71
  go_wp2
  go_loop [5, 6, 7] (fun x y i => ∃ k : Nat, k ≤ l.length ∧ i = .int .i64 k ∧ x = .int .u32 (ak s l k).1 ∧ y = .int .u32 (ak s l k).2) (fun _ _ i => l.length - (intOf i).toNat)
  case atStart => exact ⟨0, by omega, rfl, rfl, rfl⟩
  case round =>
    obtain ⟨k, hk, rfl, rfl, rfl⟩ := hrel
    obtain ⟨a1, a2, a3, a4⟩ := ak_bd s l k
    by_cases hlt : k < l.length
    · obtain ⟨b, off, rfl, hbB, hc⟩ := hA (by omega)
      have hcx := hc k hlt
      have hbt : (l[k].toNat : Int) ≤ 255 := by have := l[k].toNat_lt; omega
      have hsucc := Lib.hid (ak_succ s l k hlt)
      go_wp2
      go_round
      case rel =>
        have e := hsucc.out
        simp only [List.getD_eq_getElem?_getD, List.getElem?_eq_getElem hlt, Option.getD_some] at e
        exact ⟨k + 1, by omega, by go_num, by rw [e]; simp [astep], by rw [e]; simp [astep]⟩
      case measure => simp [intOf]; omega
    · obtain rfl : k = l.length := by omega
      have hv : 65536 * (ak s l l.length).2 + (ak s l l.length).1 = adler s l := ak_all s l
      have HV := Lib.hid hv
      clear hv
      go_wp2
      go_ret
      exact ⟨by rw [← HV.out]; rfl, Below.refl _ _⟩

theorem rsum_any (A : Option Addr) (l : List UInt8) (n cap : Nat) (w : World) (hn : l.length = n) (hA : Bs w w.heap.size A l) (hl : l.length ≤ 140737488351232) :
    Calls Try.prog 68 #[.slice A n cap] w fun e w' => e = .returned (.int .u32 (adler 1 l)) ∧ Below w.heap.size w w' := by
  have HN := Lib.hid hn
  clear hn
  go_enter Try.func68, Try.ntmps68
  go_wp2_with fail
  refine (rgo_any 1 A l n cap _ HN.out (by omega) (by omega) hA hl).mono ?_
  rintro e w' ⟨rfl, hb⟩
  go_wp2
  go_ret
  exact ⟨rfl, hb⟩
end Go.Proofs.Ytcgkoojegopfnaa
