/- How an argument that is an array of three ints is opened. -/
import Derived.Test.YtcgkoojegopfnaaOpen
import Derived.Laws.IdiomArrays
namespace Go.Proofs.Ytcgkoojegopfnaa
open Go.ChangeShapes Go.WideShapes Go.ChangeAt Go.RowKit

theorem open_arr3 {H : Type} {enc : TypeId × Value → H} {P : Program} {r : Reach} {b0 : Nat} {t e : TypeId} (ht : P.underlying t = some (.array 3 e)) (he : P.underlying e = some (.int .i64)) (ce : P.cellsOf e = 1) (ct : P.cellsOf t = 3)
    {W : World} {v : Value} {d : DataW H} {ps : List MemPlace} {sp : Nat → Bool} {hd : Bool} (hv : Value.okWide P W r b0 t v) (h : DataW.Trod enc P W 0 sp hd t v d ps) :
    ∃ x y z : Int, v = .agg #[.int .i64 x, .int .i64 y, .int .i64 z] ∧ (-9223372036854775808 ≤ x ∧ x ≤ 9223372036854775807) ∧ (-9223372036854775808 ≤ y ∧ y ≤ 9223372036854775807) ∧ (-9223372036854775808 ≤ z ∧ z ≤ 9223372036854775807) := by
  obtain ⟨cs, rfl, hsz⟩ : ∃ cs, v = .agg cs ∧ cs.size = P.cellsOf t := by
    simp only [Value.okWide, ht] at hv
    obtain ⟨cs, h1, h2, _⟩ := hv
    exact ⟨cs, h1, h2⟩
  rw [ct] at hsz
  obtain ⟨l⟩ := cs
  match l, hsz with
  | [c0, c1, c2], _ =>
    obtain ⟨fuel, hf⟩ := h
    obtain ⟨y0, y1, y2, m, _, h0, h1, h2⟩ := trod_array3 ht ce hf
    obtain ⟨x0, e0, _, w0⟩ := DataW.trod_int he h0
    obtain ⟨x1, e1, _, w1⟩ := DataW.trod_int he h1
    obtain ⟨x2, e2, _, w2⟩ := DataW.trod_int he h2
    injection e0 with e0
    injection e1 with e1
    injection e2 with e2
    subst e0 e1 e2
    exact ⟨x0, x1, x2, rfl, bounds_i64 w0, bounds_i64 w1, bounds_i64 w2⟩
end Go.Proofs.Ytcgkoojegopfnaa
