/- How an argument that is a record is opened. -/
import Derived.Test.YtcgkoojegopfnaaOpenR
import Derived.Lib.SmallJoins
namespace Go.Proofs.Ytcgkoojegopfnaa
open Go.ChangeShapes Go.WideShapes Go.ChangeAt Go.RowKit Go.Deep

theorem open_rec {H : Type} {enc : TypeId × Value → H} {P : Program} {r : Reach} {b0 : Nat} {t ti ts tk : TypeId} {f0 f1 f2 f3 : Field} (ht : P.underlying t = some (.struct #[f0, f1, f2, f3])) (hone : oneCellFields P #[f0, f1, f2, f3] = true) (hC : P.cellsOf t = 4)
    (t0 : f0.type = ti) (t1 : f1.type = ti) (t2 : f2.type = ti) (t3 : f3.type = ts) (ui : P.underlying ti = some (.int .i64)) (us : P.underlying ts = some (.slice tk)) (uk : P.underlying tk = some (.int .u8)) (ck : P.cellsOf tk = 1)
    {W : World} {v : Value} {d : DataW H} {ps : List MemPlace} {sp : Nat → Bool} {hd : Bool} (hv : Value.okWide P W r b0 t v) (h : DataW.Trod enc P W 0 sp hd t v d ps) :
    ∃ (k a b : Int) (A : Option Addr) (l : List UInt8) (n c : Nat), v = .agg #[.int .i64 k, .int .i64 a, .int .i64 b, .slice A n c] ∧ (-9223372036854775808 ≤ k ∧ k ≤ 9223372036854775807) ∧ (-9223372036854775808 ≤ a ∧ a ≤ 9223372036854775807) ∧ (-9223372036854775808 ≤ b ∧ b ≤ 9223372036854775807) ∧
      l.length = n ∧ n ≤ c ∧ c ≤ maxLen ∧ Bs W W.heap.size A l := by
  obtain ⟨v0, v1, v2, v3, y0, y1, y2, y3, n, rfl, _, _, h0, h1, h2, h3⟩ := Go.Joins.open_agg4 ht hone hC hv h
  rw [t0] at h0
  rw [t1] at h1
  rw [t2] at h2
  rw [t3] at h3
  obtain ⟨n0, e0, _, w0⟩ := DataW.trod_int ui h0
  obtain ⟨n1, e1, _, w1⟩ := DataW.trod_int ui h1
  obtain ⟨n2, e2, _, w2⟩ := DataW.trod_int ui h2
  obtain ⟨l3, a3, c3, e3, g1, g2, g3⟩ := open_bs0 us uk ck h3
  injection e0 with e0
  injection e1 with e1
  injection e2 with e2
  subst e0 e1 e2 e3
  exact ⟨n0, n1, n2, a3, l3, _, c3, rfl, bounds_i64 w0, bounds_i64 w1, bounds_i64 w2, rfl, g1, g2, g3⟩
end Go.Proofs.Ytcgkoojegopfnaa
