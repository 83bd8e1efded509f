/- The walk of the law FrameTurned. -/
import Derived.Test.YtcinicmcfoioeaaFrameW
import Derived.Test.YtcinicmcfoioeaaFrameL
namespace Go.Proofs.Ytcinicmcfoioeaa
open Go.RowKit

theorem mask511 (a : Int) : 0 ≤ bits .and .i64 a 511 ∧ bits .and .i64 a 511 ≤ 511 := by
  have h : ((BitVec.ofInt 64 a &&& BitVec.ofInt 64 511).toNat : Nat) ≤ 511 := by
    rw [BitVec.toNat_and]
    exact Nat.le_trans Nat.and_le_right (by decide)
  have e : bits .and .i64 a 511 = IntKind.i64.wrap ((BitVec.ofInt 64 a &&& BitVec.ofInt 64 511).toNat : Int) := rfl
  rw [e, IntWalk.i64_in _ (by omega)]
  omega

theorem u8_xor_bytes' (a b : UInt8) : bits .xor .u8 (a.toNat : Int) (b.toNat : Int) = ((a ^^^ b).toNat : Int) := by
  rw [u8_xor_nat _ _ a.toNat_lt b.toNat_lt, UInt8.toNat_xor]

set_option maxHeartbeats 800000 in
theorem frameTurned_walk (w : World) (A : Option Addr) (l : List UInt8) (n cap : Nat) (hn : l.length = n) (hcap : n ≤ cap) (hm : cap ≤ maxLen) (hA : Bs w w.heap.size A l)
    (at_ : Int) (_hat : -9223372036854775808 ≤ at_ ∧ at_ ≤ 9223372036854775807) (by_ : Int) (hby : 0 ≤ by_ ∧ by_ ≤ 255) :
    Calls Try.prog 8 #[.slice A n cap, .int .i64 at_, .int .u8 by_] w fun e w' => e = .returned (.bool true) ∧ Below w.heap.size w w' := by
  have hm' := Lib.hid hm
  unfold maxLen at hm
  have HN := Lib.hid hn
  clear hn
  obtain ⟨y, rfl⟩ : ∃ y : UInt8, by_ = (y.toNat : Int) := ⟨UInt8.ofNat by_.toNat, by rw [UInt8.toNat_ofNat']; omega⟩
  have hmask := mask511 at_
  go_enter Try.func8, Try.ntmps8
  go_wp2_with fail
  refine (shown13_any _).mono ?_
  rintro e w1 ⟨rfl, b1⟩
  go_wp2_with fail
  have e1 := (Below.refl w1.heap.size w1).alloc (Nat.le_refl _) (.cells #[.slice A n cap] 22)
  have r1 : Rr (w1.alloc (.cells #[.slice A n cap] 22)) (w1.heap.size + 1) (some ⟨w1.heap.size, 0, none⟩) [l] := fun _ => by
    refine ⟨w1.heap.size, 0, rfl, Nat.lt_succ_self _, fun i hi => ?_⟩
    obtain rfl : i = 0 := by simp at hi; exact hi
    refine ⟨A, cap, ?_, ?_, hm'.out, ?_⟩
    · simp [HN.out]
    · simp [HN.out, hcap]
    · exact ((hA.step b1).below e1).more (Nat.le_succ _)
  refine (row_any (some ⟨w1.heap.size, 0, none⟩) [l] 1 1 _ rfl (by omega) (r1.more (by simp))).mono ?_
  rintro e w2 ⟨Ab, cb, Ao, co, Ae, ce, rfl, ob, oo, _, b2⟩
  have c1 := b1.trans (e1.mono b1.size)
  have c2 := c1.trans (b2.mono c1.size)
  have hrec : recs (([l] : List (List UInt8)).take 20) = if 0 < (l.take 300).length then [l.take 300] else [] := by
    unfold recs
    simp only [List.take_succ_cons, List.take_nil, List.map_cons, List.map_nil, List.filter_cons, List.filter_nil]
    by_cases h : 0 < (l.take 300).length
    · rw [if_pos (by simpa using h), if_pos h]
    · rw [if_neg (by simpa using h), if_neg h]
  have hxl : (l.take 300).length ≤ 300 := by rw [List.length_take]; omega
  rw [hrec] at ob oo ⊢
  clear hrec r1 e1 b1 b2
  generalize l.take 300 = x at *
  by_cases hpos : 0 < x.length
  · rw [if_pos hpos] at ob oo ⊢
    have hf1 : flatP [x] = fput x := by rw [flatP_cons, flatP_nil, List.append_nil]
    rw [hf1, fput_length] at ob
    rw [hf1, fput_length]
    clear hf1
    have hlen := Lib.hid (fput_length x)
    obtain ⟨g, rfl, hg1, hg2⟩ := ob.at_ (by omega)
    have oc := ob.cap
    obtain ⟨j, hj⟩ := Int.eq_ofNat_of_zero_le hmask.1
    have hj2 : j ≤ 511 := by omega
    obtain ⟨r, hr, hmod⟩ : ∃ r : Nat, r < x.length + 4 ∧ (j : Int) % ((x.length : Int) + 6 - 2) = (r : Int) := by
      refine ⟨j % (x.length + 4), Nat.mod_lt _ (by omega), ?_⟩
      rw [show (x.length : Int) + 6 - 2 = ((x.length + 4 : Nat) : Int) by omega, ← Int.natCast_emod]
    have hk2 : 2 + r < (fput x).length := by rw [hlen.out]; omega
    have ck := ob.cell (2 + r) hk2
    have fk := ob.free (2 + r)
    have hx := u8_xor_bytes' ((fput x)[2 + r]) y
    have hturn := Lib.hid (fun h => ftake_turned x (2 + r) y hpos (by omega) (by omega) hk2 h)
    have hsame := Lib.hid (show ((fput x).set (2 + r) ((fput x)[2 + r] ^^^ 0)) = fput x ++ [] by rw [UInt8.xor_zero, List.set_getElem_self, List.append_nil])
    have ob2 := ob.set (2 + r) ((fput x)[2 + r] ^^^ y)
    have hsl := Lib.hid (show ((fput x).set (2 + r) ((fput x)[2 + r] ^^^ y)).length = x.length + 6 by rw [List.length_set, hlen.out])
    have hput := Lib.hid (ftake_fput x [] hpos (by omega))
    rw [UInt8.toNat_xor] at ob2 hx
    have hst := (ob.2.stored (2 + r) (.int .u8 (((fput x)[2 + r].toNat ^^^ y.toNat : Nat) : Int))).2
    have oo2 := oo.keptT hst (fun k hk => (ob.ov.row k hk).1) (ob.ov.notT (by decide)) (ob.ov.notT (by decide))
    clear hmask hst
    go_wp2_with fail
    refine (take_any _ _ _ cb _ hsl.out oc.1 (by omega) ob2.bs).mono ?_
    rintro e w3 ⟨A3, c3, rfl, o3, b3⟩
    have c3' : Below w.heap.size w w3 := (c2.setCell (p := ⟨g, 2 + r, none⟩) (Nat.le_trans c1.size hg1) _).trans (b3.mono (by have := c2.size; simp; omega))
    by_cases hy : y = 0
    · subst hy
      have hf := hput.out
      rw [← hsame.out] at hf
      rw [hf] at o3 ⊢
      have oo3 := (oo2.step b3).rr
      obtain ⟨q, off, rfl, _, hc⟩ := oo3 Nat.one_pos
      obtain ⟨Ai, ci, d1, d2, d3, d4⟩ := hc 0 Nat.one_pos
      rw [Nat.add_zero] at d1
      have d1' : w3.cell? ⟨q, off, none⟩ = some (.slice Ai x.length ci) := d1
      have d4' : Bs w3 w3.heap.size Ai x := d4
      have o3' : Own w3 _ A3 x.length c3 x := o3
      have hcv1 : ∀ k, (convert 22 9 (.slice A3 x.length c3)).run Try.prog (w3.drewN k) = .ok (.string (strOf x)) (w3.drewN k) := fun k => conv rfl (o3'.bs.drewN k)
      have hcv2 : ∀ k, (convert 22 9 (.slice Ai x.length ci)).run Try.prog (w3.drewN k) = .ok (.string (strOf x)) (w3.drewN k) := fun k => conv rfl (d4'.drewN k)
      clear hc d1 d2 d3 d4 d4' o3 o3' hf oo2 ob2 ob fk ck
      go_wp2_with fail
      go_quiet (fail)
      go_wp2
      go_ret
      exact ⟨rfl, below_drewN c3' _⟩
    · have hf := hturn.out hy
      rw [hf]
      have hyb : ((y.toNat : Int) == 0) = false := by
        rw [beq_eq_false_iff_ne]
        intro h
        apply hy
        apply UInt8.toNat_inj.1
        simp at h ⊢
        omega
      clear hy hf o3
      go_wp2_with fail
      go_ret
      exact ⟨rfl, c3'⟩
  · rw [if_neg hpos]
    clear hpos
    go_wp2
    go_ret
    exact ⟨rfl, c2⟩
end Go.Proofs.Ytcinicmcfoioeaa
