/- The walk of the laws' helper means (chapter 14). -/
import Derived.Test.YtcgkoojegopfnaaRDiskB
namespace Go.Proofs.Ytcgkoojegopfnaa
open Go.RowKit

set_option maxRecDepth 10000 in
set_option maxHeartbeats 1600000 in
theorem means_any (base g : Nat) (q : Option Nat) (d : Dsk) (kind : UInt8) (n : Int) (A : Option Addr) (b : List UInt8) (m c : Nat) (w : World) (hd : Rk w base g q d) (hbase : base ≤ w.heap.size) (hm : b.length = m) (hmc : m ≤ c) (hcm : c ≤ maxLen) (hA : Bs w w.heap.size A b) :
    Calls Try.prog 25 #[.pointer (some ⟨g, 0, none⟩), .agg #[.int .u8 (kind.toNat : Int), .int .i64 n, .slice A m c]] w (RDoes w base g q (opDo d (kind.toNat % 8) n (b.take 3000)).1 (.int .i64 (opDo d (kind.toNat % 8) n (b.take 3000)).2)) := by
  unfold maxLen at hcm
  obtain ⟨mb, hmmb⟩ : ∃ mb, mb = min m 3000 := ⟨_, rfl⟩
  have hlmb : (b.take 3000).length = mb := by rw [List.length_take]; omega
  have hmb3 : mb ≤ 3000 := by omega
  have hmbc : mb ≤ c := by omega
  have HMB0 := Lib.hid hmmb
  have HMB := Lib.hid hlmb
  have hTA := hA.take 3000
  generalize b.take 3000 = x at *
  obtain ⟨wb, hwb⟩ : ∃ wb, wb = w.alloc (.cells #[.int .u8 (kind.toNat : Int), .int .i64 n, .slice A m c] 35) := ⟨_, rfl⟩
  have hb0 : Below w.heap.size w wb := by rw [hwb]; exact (Below.refl _ _).alloc (Nat.le_refl _) _
  have hK : Blk wb w.heap.size 35 #[.int .u8 (kind.toNat : Int), .int .i64 n, .slice A m c] := by rw [hwb]; exact Blk.new w _ _
  have d0 := hd.step hb0
  have hT0 := (hTA.below hb0).more hb0.size
  have hbs : base ≤ wb.heap.size := Nat.le_trans hbase hb0.size
  have c0 := hK.cell 0
  have c1 := hK.cell 1
  have c2 := hK.cell 2
  simp only [List.getElem?_toArray, List.getElem?_cons_zero, List.getElem?_cons_succ] at c0 c1 c2
  have h7 := u8_and7 kind
  have hlt : kind.toNat % 8 < 8 := Nat.mod_lt _ (by decide)
  generalize kind.toNat % 8 = r at *
  clear hm hlmb hmmb hA hTA hd
  have key : Calls Try.prog 25 #[.pointer (some ⟨g, 0, none⟩), .agg #[.int .u8 (kind.toNat : Int), .int .i64 n, .slice A m c]] w (RDoes wb base g q (opDo d r n x).1 (.int .i64 (opDo d r n x).2)) := by
    go_enter Try.func25, Try.ntmps25
    go_upto_if 10 with (fail)
    rw [← hwb]
    clear hwb
    go_cut [5] (fun s wx => s = .slice A mb c ∧ wx = wb)
    case first =>
      by_cases h30 : 3000 < m
      · obtain rfl : mb = 3000 := by have := HMB0.out; omega
        have h30c : 3000 ≤ c := by omega
        go_wp2_with fail
        go_meet
        exact ⟨rfl, rfl⟩
      · obtain rfl : mb = m := by have := HMB0.out; omega
        go_wp2_with fail
        go_meet
        exact ⟨rfl, rfl⟩
    case rest =>
      obtain ⟨rfl, hwc⟩ := hcut
      subst hwc
      match r, hlt with
      | 0, _ =>
        have h7' : bits .and .u8 (kind.toNat : Int) 7 = 0 := h7
        clear h7
        go_wp2_with fail
        refine (rappend_any base g q d A x mb c _ d0 hbs HMB.out hmb3 hT0).mono ?_
        rintro e w3 ⟨q3, rfl, d3, t3, m3⟩
        go_wp2_with fail
        go_ret
        exact ⟨q3, rfl, d3, t3, m3⟩
      | 1, _ =>
        have h7' : bits .and .u8 (kind.toNat : Int) 7 = 1 := h7
        clear h7
        go_wp2_with fail
        refine (rsync_any base g q d _ d0 hbs).mono ?_
        rintro e w3 ⟨q3, rfl, d3, t3, m3⟩
        go_wp2_with fail
        go_ret
        exact ⟨q3, rfl, d3, t3, m3⟩
      | 2, _ =>
        have h7' : bits .and .u8 (kind.toNat : Int) 7 = 2 := h7
        clear h7
        go_wp2_with fail
        refine (rdoom_any base g q d n _ d0).mono ?_
        rintro e w3 ⟨q3, rfl, d3, t3, m3⟩
        go_wp2_with fail
        go_ret
        exact ⟨q3, rfl, d3, t3, m3⟩
      | 3, _ =>
        have h7' : bits .and .u8 (kind.toNat : Int) 7 = 3 := h7
        clear h7
        go_wp2_with fail
        refine (rcrash_any base g q d n _ d0 hbs).mono ?_
        rintro e w3 ⟨q3, rfl, d3, t3, m3⟩
        go_wp2_with fail
        go_ret
        exact ⟨q3, rfl, d3, t3, m3⟩
      | 4, _ =>
        have h7' : bits .and .u8 (kind.toNat : Int) 7 = 4 := h7
        clear h7
        go_wp2_with fail
        refine (rup_any base g q d _ d0).mono ?_
        rintro e w3 ⟨q3, rfl, d3, t3, m3⟩
        go_wp2_with fail
        go_ret
        exact ⟨q3, rfl, d3, t3, m3⟩
      | 5, _ =>
        have h7' : bits .and .u8 (kind.toNat : Int) 7 = 5 := h7
        clear h7
        go_wp2_with fail
        refine (rcut_any base g q d n _ d0 hbs).mono ?_
        rintro e w3 ⟨q3, rfl, d3, t3, m3⟩
        go_wp2_with fail
        go_ret
        exact ⟨q3, rfl, d3, t3, m3⟩
      | 6, _ =>
        have h7' : bits .and .u8 (kind.toNat : Int) 7 = 6 := h7
        clear h7
        go_wp2_with fail
        go_ret
        exact ⟨q, rfl, d0, Touch.refl _ _ _, .inl rfl⟩
      | 7, _ =>
        have h7' : bits .and .u8 (kind.toNat : Int) 7 = 7 := h7
        clear h7
        go_wp2_with fail
        go_ret
        exact ⟨q, rfl, d0, Touch.refl _ _ _, .inl rfl⟩
  exact key.mono fun e w' h => RDoes.pre hb0 h
end Go.Proofs.Ytcgkoojegopfnaa
