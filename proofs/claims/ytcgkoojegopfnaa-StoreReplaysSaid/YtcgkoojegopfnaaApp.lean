/- append of bytes, at this program's tables. -/
import Derived.Test.YtcgkoojegopfnaaProg
import Derived.Test.YtcgkoojegopfnaaAppend
namespace Go.Proofs.Ytcgkoojegopfnaa
open Go.RowKit

theorem infoByte : (Try.prog.info? 5).map (fun i => (i.zero, i.size, i.bytes)) = some (some (.int .u8 0), 1, 1) := by kernel_rfl

/-- A slice of bytes of the call's own. -/
abbrev Own (w : World) (base : Nat) (A : Option Addr) (n c : Nat) (l : List UInt8) : Prop := Ob w base 5 A n c l

theorem app {w : World} {ops : Array Oper} {rest : List Oper} {o : Oper} {a : Act} {Q : Exit → Act → World → Prop} (hgd : o.guard = none) (s x : Operand)
    (ho : o.op = .call { callee := .builtin .append, args := #[s, x], argTypes := #[22, 22] })
    {base n c : Nat} {A : Option Addr} {l : List UInt8} (hs : a.eval s = .slice A n c) (hown : Own w base A n c l) {B m c2 : Nat} {A2 : Option Addr} {l2 : List UInt8} (hx : a.eval x = .slice A2 m c2) (hm : l2.length = m) (hr : Bs w B A2 l2)
    (hbytes : n + m ≤ 140737488355328) (hbase : base ≤ w.heap.size)
    (h : ∀ A' c' w', Own w' base A' (n + m) c' (l ++ l2) → w.grownBy w' (Value.slice A n c).ownBlock → (A' = A ∨ A' = some ⟨w.heap.size, 0, none⟩) → wpList Try.prog ops Q rest (a.put o.dst (.slice A' (n + m) c')) w') : wpList Try.prog ops Q (o :: rest) a w := by
  obtain ⟨i, hi, hz, hsz, hby⟩ := info_parts infoByte
  exact wpList_append_bs hgd s x _ ho 5 i Try.underlying22 hi hz hsz hby hs hown hx hm hr hbytes hbase h

/-- 'make([]byte, n)': n noughts in a new block. -/
theorem mk {w : World} {ops : Array Oper} {rest : List Oper} {o : Oper} {a : Act} {Q : Exit → Act → World → Prop} (hgd : o.guard = none) (x y : Operand)
    (ho : o.op = Op.makeSlice 22 x y) (kl kc : IntKind) (L C : Int) (n : Nat) (hx : a.eval x = .int kl L) (hy : a.eval y = .int kc C) (hL : L = (n : Int)) (hC : C = (n : Int)) {base : Nat} (hn : n ≤ 140737488355328) (hb : base ≤ w.heap.size)
    (h : ∀ w', Own w' base (some ⟨w.heap.size, 0, none⟩) n n (List.replicate n 0) → w.grownBy w' none → wpList Try.prog ops Q rest (a.put o.dst (.slice (some ⟨w.heap.size, 0, none⟩) n n)) w') : wpList Try.prog ops Q (o :: rest) a w := by
  obtain ⟨i, hi, hz, hsz, hby⟩ := info_parts infoByte
  refine wpList_make_full w hgd x y _ ho base 5 i (.int .u8 0) 1 Try.underlying22 hi hz hsz kl kc L C n hx hy hL hC (by rw [hby]; omega) (by unfold maxLen; omega) hb (fun w' ho' hg' => h w' ⟨by simp, ?_⟩ hg')
  have e : (madeCells (Value.int .u8 0).cells (n * 1)).toList = (List.replicate n (0 : UInt8)).map bv := by
    refine List.ext_getElem? fun j => ?_
    by_cases hj : j < n
    · simp [madeCells, bv, hj, Value.cells, Nat.mod_one]
    · simp [madeCells, hj]
  rw [← e]
  exact ho'

/-- 'make([]byte, 0, n)'. -/
theorem mk0 {w : World} {ops : Array Oper} {rest : List Oper} {o : Oper} {a : Act} {Q : Exit → Act → World → Prop} (hgd : o.guard = none) (x y : Operand)
    (ho : o.op = Op.makeSlice 22 x y) (kl kc : IntKind) (C : Int) (n : Nat) (hx : a.eval x = .int kl 0) (hy : a.eval y = .int kc C) (hC : C = (n : Int)) {base : Nat} (hn : n ≤ 140737488355328) (hb : base ≤ w.heap.size)
    (h : ∀ w', Own w' base (some ⟨w.heap.size, 0, none⟩) 0 n [] → w.grownBy w' none → wpList Try.prog ops Q rest (a.put o.dst (.slice (some ⟨w.heap.size, 0, none⟩) 0 n)) w') : wpList Try.prog ops Q (o :: rest) a w := by
  obtain ⟨i, hi, hz, hsz, hby⟩ := info_parts infoByte
  exact wpList_make_own w hgd x y _ ho base 5 i (.int .u8 0) 1 Try.underlying22 hi hz hsz kl kc C n hx hy hC (by rw [hby]; omega) (by unfold maxLen; omega) hb (fun w' ho' hg' => h w' ⟨rfl, ho'⟩ hg')

/-- An append writes nothing that was there when the call began. -/
theorem Own.grown {w0 w w' : World} {A : Option Addr} {n c : Nat} {l : List UInt8} (h : Own w w0.heap.size A n c l) (hb : Below w0.heap.size w0 w) (hg : w.grownBy w' (Value.slice A n c).ownBlock) : Below w0.heap.size w0 w' :=
  hb.grown hg hb.size (fun k hk => (h.2.lt k hk).1)
end Go.Proofs.Ytcgkoojegopfnaa
