/- The walk of the law StoreBack. -/
import Derived.Test.YtcgkoojegopfnaaStoH
namespace Go.Proofs.Ytcgkoojegopfnaa
open Go.RowKit
set_option linter.unusedSimpArgs false
set_option linter.unusedVariables false

set_option maxRecDepth 100000 in
set_option maxHeartbeats 3200000 in
theorem storeBack_walk (w : World) (rk ra rb : Int) (X : Option Addr) (lx : List UInt8) (m c : Nat) (hm : lx.length = m) (hmc : m ≤ c) (hcm : c ≤ maxLen) (hX : Bs w w.heap.size X lx)
    (ha : -9223372036854775808 ≤ ra ∧ ra ≤ 9223372036854775807) (hb : -9223372036854775808 ≤ rb ∧ rb ≤ 9223372036854775807)
    (B : Option Addr) (lb : List UInt8) (nb cb : Nat) (hnb : lb.length = nb) (hcb : nb ≤ cb) (hmb : cb ≤ maxLen) (hB : Bs w w.heap.size B lb) :
    Calls Try.prog 8 #[.agg #[.int .i64 rk, .int .i64 ra, .int .i64 rb, .slice X m c], .slice B nb cb] w fun e w' => e = .returned (.bool true) ∧ Below w.heap.size w w' := by
  obtain ⟨mx, hmx⟩ : ∃ mx, mx = min m 250 := ⟨_, rfl⟩
  obtain ⟨n3, hn3⟩ : ∃ n3, n3 = min nb 300 := ⟨_, rfl⟩
  obtain ⟨r, hr⟩ : ∃ r : Rcd, r = ⟨rk, ra, rb, lx.take 250⟩ := ⟨_, rfl⟩
  have hxl : r.x.length = mx := by rw [hr]; show (lx.take 250).length = _; rw [List.length_take]; omega
  have hX2 : Bs w w.heap.size X r.x := by rw [hr]; exact hX.take 250
  have hl3 : (lb.take 300).length = n3 := by rw [List.length_take]; omega
  have hB2 := hB.take 300
  have e1 : r.kind = rk := by rw [hr]
  have e2 : r.a = ra := by rw [hr]
  have e3 : r.b = rb := by rw [hr]
  have HN3 := Lib.hid hn3
  have h300 : n3 ≤ 300 := by omega
  have h3c : n3 ≤ cb := by omega
  have hmx25 : mx ≤ 250 := by omega
  subst e1 e2 e3
  generalize lb.take 300 = b at *
  have hrec := fun wx => record_any r X m c mx wx hmx hmc hcm
  have HREC := Lib.hid hrec
  have HXL := Lib.hid hxl
  have HL3 := Lib.hid hl3
  unfold maxLen at hcm hmb
  clear hm hX hnb hB hn3 hr hmx hrec hxl hl3
  have kb := Blk.new w TRec #[.int .i64 r.kind, .int .i64 r.a, .int .i64 r.b, .slice X m c]
  have ba := (Below.refl w.heap.size w).alloc (Nat.le_refl _) (.cells #[.int .i64 r.kind, .int .i64 r.a, .int .i64 r.b, .slice X m c] TRec)
  go_enter Try.func8, Try.ntmps8
  go_wp2_with fail
  refine (shown15_any _).mono ?_
  rintro e w1 ⟨rfl, b1⟩
  have k1 := kb.below b1 kb.lt
  have bw1 := ba.trans (b1.mono ba.size)
  have c0 := k1.cell 0
  have c1 := k1.cell 1
  have c2 := k1.cell 2
  have c3 := k1.cell 3
  simp only [List.getElem?_toArray, List.getElem?_cons_zero, List.getElem?_cons_succ] at c0 c1 c2 c3
  clear kb ba b1
  go_wp2_with fail
  refine (HREC.out _).mono ?_
  rintro e w2 ⟨rfl, b2⟩
  have k2 := k1.below b2 k1.lt
  have bw2 := bw1.trans (b2.mono bw1.size)
  have d0 := k2.cell 0
  have d1 := k2.cell 1
  have d2 := k2.cell 2
  have d3 := k2.cell 3
  have f0 := k2.free 0
  have f1 := k2.free 1
  have f2 := k2.free 2
  have f3 := k2.free 3
  have hgl := k2.lt
  simp only [List.getElem?_toArray, List.getElem?_cons_zero, List.getElem?_cons_succ] at d0 d1 d2 d3
  clear c0 c1 c2 c3 k1 bw1 b2
  go_wp2_with fail
  have k3 : Blk ((((w2.setCell ⟨w.heap.size, 0, none⟩ (.int .i64 r.kind)).setCell ⟨w.heap.size, 1, none⟩ (.int .i64 r.a)).setCell ⟨w.heap.size, 2, none⟩ (.int .i64 r.b)).setCell ⟨w.heap.size, 3, none⟩ (.slice X mx c)) w.heap.size TRec #[.int .i64 r.kind, .int .i64 r.a, .int .i64 r.b, .slice X mx c] := (((k2.set 0 (.int .i64 r.kind)).set 1 (.int .i64 r.a)).set 2 (.int .i64 r.b)).set 3 (.slice X mx c)
  have b3 : Below w.heap.size w ((((w2.setCell ⟨w.heap.size, 0, none⟩ (.int .i64 r.kind)).setCell ⟨w.heap.size, 1, none⟩ (.int .i64 r.a)).setCell ⟨w.heap.size, 2, none⟩ (.int .i64 r.b)).setCell ⟨w.heap.size, 3, none⟩ (.slice X mx c)) := (((bw2.setCell (Nat.le_refl _) _).setCell (Nat.le_refl _) _).setCell (Nat.le_refl _) _).setCell (Nat.le_refl _) _
  clear k2 bw2 d0 d1 d2 d3 f0 f1 f2 f3 hgl
  generalize ((((w2.setCell ⟨w.heap.size, 0, none⟩ (.int .i64 r.kind)).setCell ⟨w.heap.size, 1, none⟩ (.int .i64 r.a)).setCell ⟨w.heap.size, 2, none⟩ (.int .i64 r.b)).setCell ⟨w.heap.size, 3, none⟩ (.slice X mx c)) = w3 at *
  refine (sput_any r X mx c _ HXL.out (by omega) ((hX2.below b3).more b3.size) ha hb).mono ?_
  rintro e w4 ⟨P, np, cp, rfl, oP, b4⟩
  have k4 := k3.below b4 k3.lt
  have bw4 := b3.trans (b4.mono b3.size)
  have hgl := k4.lt
  have d0 := k4.cell 0
  have d1 := k4.cell 1
  have d2 := k4.cell 2
  have d3 := k4.cell 3
  simp only [List.getElem?_toArray, List.getElem?_cons_zero, List.getElem?_cons_succ] at d0 d1 d2 d3
  clear k3 b3 b4
  obtain ⟨e1, he1⟩ : ∃ e1, (rPut r).2 = e1 := ⟨_, rfl⟩
  rw [he1]
  have HE1 := Lib.hid he1
  clear he1
  go_upto_if 24 with (fail)
  go_cut [] (fun wx => Below w.heap.size w wx)
  case first =>
    cases hro : rOk r
    · have hrp : rPut r = ([], 1) := by unfold rPut; rw [hro]; rfl
      obtain rfl : e1 = 1 := by rw [← HE1.out, hrp]
      clear hrp hro
      go_wp2_with fail
      go_meet
      exact bw4
    · have hrp : rPut r = (rBytes r, 0) := by unfold rPut; rw [hro]; rfl
      have HRP := Lib.hid hrp
      have HT := Lib.hid (rTake_put hro)
      have h205 := rBytes_210 hro
      have hnp := oP.1
      rw [hrp] at oP hnp
      obtain rfl : e1 = 0 := by rw [← HE1.out, hrp]
      simp only at oP hnp
      have hnp2 : np ≤ 205 := by omega
      have HNP := Lib.hid hnp
      have he := Ob.empty (w := w4) (base := w4.heap.size) (E := 5) (Nat.le_refl _)
      have hbe : Below w4.heap.size w4 (w4.alloc (.cells #[] 5)) := (Below.refl _ _).alloc (Nat.le_refl _) _
      have hPe := oP.bs.step hbe
      clear hrp hro hnp h205
      go_wp2_with (at_builtin; refine app rfl (.tmp 26) (.tmp 27) rfl rfl he rfl HNP.out hPe (by omega) (by simp) ?_; intro A5 c5 w5 o5 g5 hA5; have b5 : Below w4.heap.size w4 w5 := Own.grown he hbe g5; rw [Nat.zero_add] at o5; simp only [List.nil_append] at o5)
      refine (stake_any A5 (rBytes r) np c5 _ HNP.out (Ob.cap o5).1 (by omega) o5.bs).mono ?_
      rintro e w6 ⟨Y, my, cy, rfl, oY, b6⟩
      rw [HT.out] at oY ⊢
      unfold recV
      simp only at oY ⊢
      have bb6 := b5.trans (b6.mono b5.size)
      have k6 := k4.below bb6 k4.lt
      have bw6 := bw4.trans (bb6.mono bw4.size)
      have ba6 := (Below.refl w6.heap.size w6).alloc (Nat.le_refl _) (.cells #[.int .i64 r.kind, .int .i64 r.a, .int .i64 r.b, .slice Y my cy] TRec)
      have oY7 := oY.step ba6
      have hgl6 := k6.lt
      have b7 := bw6.trans (ba6.mono bw6.size)
      have hX7 := (hX2.below b7).more b7.size
      have q0 := k6.cell 0
      have q1 := k6.cell 1
      have q2 := k6.cell 2
      have q3 := k6.cell 3
      simp only [List.getElem?_toArray, List.getElem?_cons_zero, List.getElem?_cons_succ] at q0 q1 q2 q3
      clear he hbe hPe g5 d0 d1 d2 d3 k4 b5 b6 bb6
      go_wp2_with fail
      refine (sameRec_any r Y X my cy mx c _ oY7.1 HXL.out oY7.bs hX7).mono ?_
      rintro e w8 ⟨rfl, b8⟩
      have bw8 := b7.trans (b8.mono b7.size)
      have hlt : decide (210 < np) = false := by simp; omega
      clear q0 q1 q2 q3
      go_wp2_with fail
      go_meet
      exact bw8
  case rest =>
    clear k4 d0 d1 d2 d3 oP HREC hX2 HXL
    have bw := hcut
    go_upto_if 48 with (fail)
    go_cut [1] (fun s wx => s = .slice B n3 cb ∧ wx = wc)
    case first =>
      by_cases h30 : 300 < nb
      · obtain rfl : n3 = 300 := by have := HN3.out; omega
        have h30c : 300 ≤ cb := by omega
        go_wp2_with fail
        go_meet
        exact ⟨rfl, rfl⟩
      · obtain rfl : n3 = nb := by have := HN3.out; omega
        go_wp2_with fail
        go_meet
        exact ⟨rfl, rfl⟩
    case rest =>
      obtain ⟨rfl, hwc⟩ := hcut
      subst hwc
      have hBc := (hB2.below bw).more bw.size
      have he := Ob.empty (w := wc) (base := wc.heap.size) (E := 5) (Nat.le_refl _)
      have hbe : Below wc.heap.size wc (wc.alloc (.cells #[] 5)) := (Below.refl _ _).alloc (Nat.le_refl _) _
      have hBe := hBc.step hbe
      go_wp2_with (at_builtin; refine app rfl (.tmp 52) (.tmp 53) rfl rfl he rfl HL3.out hBe (by omega) (by simp) ?_; intro A5 c5 w5 o5 g5 hA5; have b5 : Below wc.heap.size wc w5 := Own.grown he hbe g5; rw [Nat.zero_add] at o5; simp only [List.nil_append] at o5)
      refine (stake_any A5 b n3 c5 _ HL3.out (Ob.cap o5).1 (by omega) o5.bs).mono ?_
      rintro e w6 ⟨Y, my, cy, rfl, oY, b6⟩
      have bw6 := (bw.trans (b5.mono bw.size)).trans (b6.mono (Nat.le_trans bw.size b5.size))
      clear he hbe hBe g5 b5 b6 o5
      rcases rTake_cases b with ⟨q, ht, hq, hqb⟩ | ht
      · have HT := Lib.hid ht
        rw [ht] at oY
        rw [HT.out]
        unfold recV
        simp only at oY ⊢
        have hrp : rPut q = (b, 0) := by unfold rPut; rw [hq, ← hqb]; rfl
        have HRP := Lib.hid hrp
        obtain ⟨q1, q2, q3, q4, q5, _, _⟩ := rOk_bd hq
        have hmy := oY.1
        have hmy2 : my ≤ 200 := by omega
        have HMY := Lib.hid hmy
        have ba6 := (Below.refl w6.heap.size w6).alloc (Nat.le_refl _) (.cells #[.int .i64 q.kind, .int .i64 q.a, .int .i64 q.b, .slice Y my cy] TRec)
        have oY7 := oY.step ba6
        have b7 := bw6.trans (ba6.mono bw6.size)
        clear ht hq hqb hrp hmy
        go_wp2_with fail
        refine (sput_any q Y my cy _ HMY.out (by omega) oY7.bs ⟨by omega, by omega⟩ ⟨by omega, by omega⟩).mono ?_
        rintro e w8 ⟨Z, nz, cz, rfl, oZ, b8⟩
        rw [HRP.out] at oZ
        rw [HRP.out]
        simp only at oZ ⊢
        have bw8 := b7.trans (b8.mono b7.size)
        have hB8 := hB2.below bw8
        have h1 := conv (c := cz) oZ.1 oZ.bs
        have h2 := conv (c := cb) HL3.out hB8
        clear oZ oY oY7 ba6
        go_wp2_with fail
        go_ret
        exact ⟨by simp, bw8⟩
      · have HT := Lib.hid ht
        rw [HT.out]
        unfold recV r0
        simp only
        clear ht oY
        go_wp2_with fail
        go_ret
        exact ⟨rfl, bw6.alloc bw6.size _⟩
end Go.Proofs.Ytcgkoojegopfnaa
