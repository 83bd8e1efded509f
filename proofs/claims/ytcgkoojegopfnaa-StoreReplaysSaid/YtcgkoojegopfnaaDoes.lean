/- The walk of the laws' helper does (chapter 14). -/
import Derived.Test.YtcgkoojegopfnaaOps
import Derived.Test.YtcgkoojegopfnaaDiskS
import Derived.Test.YtcgkoojegopfnaaRegS
namespace Go.Proofs.Ytcgkoojegopfnaa
open Go.RowKit

theorem and7_all : ∀ x : Fin 256, Nat.land x.val 7 = x.val % 8 := by decide +kernel
theorem u8_and7 (b : UInt8) : bits .and .u8 (b.toNat : Int) 7 = ((b.toNat % 8 : Nat) : Int) := by
  have hb := b.toNat_lt
  rw [u8_and _ _ (by omega) (by omega) (by omega) (by omega)]
  have h : Nat.land b.toNat 7 = b.toNat % 8 := and7_all ⟨b.toNat, hb⟩
  show ((Nat.land ((b.toNat : Int).toNat) 7 : Nat) : Int) = _
  rw [Int.toNat_natCast, h]

theorem Touch.trans {w w1 w' : World} {g : Nat} {q : Option Nat} (h : Touch w w1 g q) (k : Touch w1 w' g q) : Touch w w' g q :=
  ⟨k.os.trans h.os, k.tape.trans h.tape, k.output.trans h.output, Nat.le_trans h.size k.size, fun b hb h1 h2 => (k.block b (Nat.lt_of_lt_of_le hb h.size) h1 h2).trans (h.block b hb h1 h2)⟩
theorem Moved.pre {w w1 : World} {q q' : Option Nat} (h : Moved w1 q q') (hs : w.heap.size ≤ w1.heap.size) : Moved w q q' := by
  rcases h with h | ⟨k, h1, h2⟩
  · exact .inl h
  · exact .inr ⟨k, h1, Nat.le_trans hs h2⟩
theorem Does.pre {w w1 w' : World} {base g : Nat} {q : Option Nat} {d : Dsk} {v : Value} {e : Ending} (hb : Below w.heap.size w w1) (h : Does w1 base g q d v e w') : Does w base g q d v e w' := by
  obtain ⟨q', h1, h2, h3, h4⟩ := h
  exact ⟨q', h1, h2, (Touch.of_below hb).trans h3, h4.pre hb.size⟩

set_option maxRecDepth 10000 in
set_option maxHeartbeats 1600000 in
theorem does_any (base g : Nat) (q : Option Nat) (d : Dsk) (kind : UInt8) (n : Int) (A : Option Addr) (b : List UInt8) (m c : Nat) (w : World) (hd : Dk w base g q d) (hbase : base ≤ w.heap.size) (hm : b.length = m) (hmc : m ≤ c) (hcm : c ≤ maxLen) (hA : Bs w w.heap.size A b) :
    Calls Try.prog 20 #[.pointer (some ⟨g, 0, none⟩), .agg #[.int .u8 (kind.toNat : Int), .int .i64 n, .slice A m c]] w (Does w base g q (opDo d (kind.toNat % 8) n (b.take 3000)).1 (.int .i64 (opDo d (kind.toNat % 8) n (b.take 3000)).2)) := by
  unfold maxLen at hcm
  obtain ⟨mb, hmmb⟩ : ∃ mb, mb = min m 3000 := ⟨_, rfl⟩
  have hlmb : (b.take 3000).length = mb := by rw [List.length_take]; omega
  have hmb3 : mb ≤ 3000 := by omega
  have hmbc : mb ≤ c := by omega
  have HMB0 := Lib.hid hmmb
  have HMB := Lib.hid hlmb
  have hTA := hA.take 3000
  generalize b.take 3000 = x at *
  obtain ⟨wb, hwb⟩ : ∃ wb, wb = w.alloc (.cells #[.int .u8 (kind.toNat : Int), .int .i64 n, .slice A m c] 35) := ⟨_, rfl⟩
  have hb0 : Below w.heap.size w wb := by rw [hwb]; exact (Below.refl _ _).alloc (Nat.le_refl _) _
  have hK : Blk wb w.heap.size 35 #[.int .u8 (kind.toNat : Int), .int .i64 n, .slice A m c] := by rw [hwb]; exact Blk.new w _ _
  have d0 := hd.step hb0
  have hT0 := (hTA.below hb0).more hb0.size
  have hbs : base ≤ wb.heap.size := Nat.le_trans hbase hb0.size
  have c0 := hK.cell 0
  have c1 := hK.cell 1
  have c2 := hK.cell 2
  simp only [List.getElem?_toArray, List.getElem?_cons_zero, List.getElem?_cons_succ] at c0 c1 c2
  have h7 := u8_and7 kind
  have hlt : kind.toNat % 8 < 8 := Nat.mod_lt _ (by decide)
  generalize kind.toNat % 8 = r at *
  clear hm hlmb hmmb hA hTA hd
  have key : Calls Try.prog 20 #[.pointer (some ⟨g, 0, none⟩), .agg #[.int .u8 (kind.toNat : Int), .int .i64 n, .slice A m c]] w (Does wb base g q (opDo d r n x).1 (.int .i64 (opDo d r n x).2)) := by
    go_enter Try.func20, Try.ntmps20
    go_upto_if 10 with (fail)
    rw [← hwb]
    clear hwb
    go_cut [5] (fun s wx => s = .slice A mb c ∧ wx = wb)
    case first =>
      by_cases h30 : 3000 < m
      · obtain rfl : mb = 3000 := by have := HMB0.out; omega
        have h30c : 3000 ≤ c := by omega
        go_wp2_with fail
        go_meet
        exact ⟨rfl, rfl⟩
      · obtain rfl : mb = m := by have := HMB0.out; omega
        go_wp2_with fail
        go_meet
        exact ⟨rfl, rfl⟩
    case rest =>
      obtain ⟨rfl, hwc⟩ := hcut
      subst hwc
      match r, hlt with
      | 0, _ =>
        have h7' : bits .and .u8 (kind.toNat : Int) 7 = 0 := h7
        clear h7
        have he := Ob.empty (w := wc) (base := wc.heap.size) (E := 5) (Nat.le_refl _)
        have hbe : Below wc.heap.size wc (wc.alloc (.cells #[] 5)) := (Below.refl _ _).alloc (Nat.le_refl _) _
        have hTe := (hT0.below hbe).more hbe.size
        go_wp2_with (at_builtin; refine app rfl (.tmp 19) (.tmp 20) rfl rfl he rfl HMB.out hTe (by omega) (by simp) ?_; intro A2 c2' w2 o2 g2 hA2; have b2 : Below wc.heap.size wc w2 := Own.grown he hbe g2)
        rw [Nat.zero_add] at o2
        simp only [List.nil_append] at o2
        refine (append_any base g q d A2 x mb c2' _ (d0.step b2) (Nat.le_trans hbs b2.size) HMB.out o2.bs).mono ?_
        rintro e w3 ⟨q3, rfl, d3, t3, m3⟩
        go_wp2_with fail
        go_ret
        exact ⟨q3, rfl, d3, (Touch.of_below b2).trans t3, m3.pre b2.size⟩
      | 1, _ =>
        have h7' : bits .and .u8 (kind.toNat : Int) 7 = 1 := h7
        clear h7
        go_wp2_with fail
        refine (sync_any base g q d _ d0).mono ?_
        rintro e w3 ⟨q3, rfl, d3, t3, m3⟩
        go_wp2_with fail
        go_ret
        exact ⟨q3, rfl, d3, t3, m3⟩
      | 2, _ =>
        have h7' : bits .and .u8 (kind.toNat : Int) 7 = 2 := h7
        clear h7
        go_wp2_with fail
        refine (doom_any base g q d n _ d0).mono ?_
        rintro e w3 ⟨q3, rfl, d3, t3, m3⟩
        go_wp2_with fail
        go_ret
        exact ⟨q3, rfl, d3, t3, m3⟩
      | 3, _ =>
        have h7' : bits .and .u8 (kind.toNat : Int) 7 = 3 := h7
        clear h7
        go_wp2_with fail
        refine (crash_any base g q d n _ d0).mono ?_
        rintro e w3 ⟨q3, rfl, d3, t3, m3⟩
        go_wp2_with fail
        go_ret
        exact ⟨q3, rfl, d3, t3, m3⟩
      | 4, _ =>
        have h7' : bits .and .u8 (kind.toNat : Int) 7 = 4 := h7
        clear h7
        go_wp2_with fail
        refine (up_any base g q d _ d0).mono ?_
        rintro e w3 ⟨q3, rfl, d3, t3, m3⟩
        go_wp2_with fail
        go_ret
        exact ⟨q3, rfl, d3, t3, m3⟩
      | 5, _ =>
        have h7' : bits .and .u8 (kind.toNat : Int) 7 = 5 := h7
        clear h7
        go_wp2_with fail
        refine (cut_any base g q d n _ d0).mono ?_
        rintro e w3 ⟨q3, rfl, d3, t3, m3⟩
        go_wp2_with fail
        go_ret
        exact ⟨q3, rfl, d3, t3, m3⟩
      | 6, _ =>
        have h7' : bits .and .u8 (kind.toNat : Int) 7 = 6 := h7
        clear h7
        go_wp2_with fail
        go_ret
        exact ⟨q, rfl, d0, Touch.refl _ _ _, .inl rfl⟩
      | 7, _ =>
        have h7' : bits .and .u8 (kind.toNat : Int) 7 = 7 := h7
        clear h7
        go_wp2_with fail
        go_ret
        exact ⟨q, rfl, d0, Touch.refl _ _ _, .inl rfl⟩
  exact key.mono fun e w' h => Does.pre hb0 h
end Go.Proofs.Ytcgkoojegopfnaa
