/- append of one record onto a row of records, at this program's tables. -/
import Derived.Test.YtcinicmcfoioeaaApp
import Derived.Test.YtcinicmcfoioeaaRecs
namespace Go.Proofs.Ytcinicmcfoioeaa
open Go.RowKit

theorem infoRec : (Try.prog.info? 22).map (fun i => (i.zero, i.size, i.bytes)) = some (some (.slice none 0 0), 1, 24) := by kernel_rfl

/-- A row of records of the call's own. -/
abbrev OwnR (w : World) (base : Nat) (A : Option Addr) (n c : Nat) (L : List (List UInt8)) : Prop := Rw w base 22 5 A n c L
abbrev Elt (w : World) (base : Nat) (A : Option Addr) (l : List UInt8) : Prop := El w base 5 A l

theorem OwnR.below {w0 w w' : World} {A : Option Addr} {n c : Nat} {L : List (List UInt8)} (h : OwnR w w0.heap.size A n c L) (hb : Below w0.heap.size w0 w) (hg : w.grownBy w' (Value.slice A n c).ownBlock) : Below w0.heap.size w0 w' := by
  obtain ⟨_, vs, ho, _⟩ := h
  exact ho.below hb hg

theorem appRecE {E : TypeId} (hE : (22 : Nat) ≠ E) {w : World} {ops : Array Oper} {rest : List Oper} {o : Oper} {a : Act} {Q : Exit → Act → World → Prop} (hgd : o.guard = none) (s x : Operand)
    (ho : o.op = .call { callee := .builtin .append, args := #[s, x], argTypes := #[36, 36] })
    {base n c m cx : Nat} {A Ax : Option Addr} {L : List (List UInt8)} {l : List UInt8} (hs : a.eval s = .slice A n c) (hown : Rw w base 22 E A n c L) (hx : a.eval x = .slice (some ⟨w.heap.size, 0, none⟩) 1 1)
    (hl : El w base E Ax l) (hm : l.length = m) (hmc : m ≤ cx) (hcx : cx ≤ maxLen) (hbytes : n ≤ 1000000000000) (hbase : base ≤ w.heap.size)
    (h : ∀ A' c' w', Rw w' base 22 E A' (n + 1) c' (L ++ [l]) → (w.alloc (.cells #[.slice Ax m cx] 22)).grownBy w' (Value.slice A n c).ownBlock → wpList Try.prog ops Q rest (a.put o.dst (.slice A' (n + 1) c')) w') :
    wpList Try.prog ops Q (o :: rest) a (w.alloc (.cells #[.slice Ax m cx] 22)) := by
  obtain ⟨i, hi, hz, hsz, hby⟩ := info_parts infoRec
  have hb1 := (Below.refl w.heap.size w).alloc (Nat.le_refl _) (.cells #[.slice Ax m cx] 22)
  have hown1 := hown.step hb1
  have hl1 := hl.step hb1
  obtain ⟨hLn, vs, hov, hvi⟩ := id hown1
  refine wpList_append_vs hgd s x _ ho 22 i (.slice none 0 0) 1 24 Try.underlying36 hi hz hsz hby rfl (by omega) hs hov hx (news := [.slice Ax m cx]) rfl ?_ ?_ (by omega) (by omega) (by simp; omega) (fun A' c' w' ho' hg' _ => h A' c' w' ?_ hg')
  · intro j u hj
    match j, hj with
    | 0, hj => simp at hj; subst hj; simp [Addr.add]
  · intro u hu; simp at hu; subst hu; rfl
  · refine Rw.snoc hE hown1 hg' hl1 hm hmc hcx (fun vs' hov' => ?_)
    have e : vs' = vs := by
      rcases hov.2 with ⟨hv, h0⟩ | ⟨g, cap, cur, hv, _, hg, _, _, _, ht⟩
      · have l1 := hov.1
        have l2 := hov'.1
        rw [h0] at l1 l2
        simp at l1 l2
        rw [l1, l2]
      · rcases hov'.2 with ⟨hv', h0'⟩ | ⟨g', cap', cur', hv', _, hg', _, _, _, ht'⟩
        · rw [hv'] at hv; simp at hv
        · rw [hv] at hv'
          simp at hv'
          obtain ⟨rfl, rfl⟩ := hv'
          rw [hg] at hg'
          injection hg' with hg'
          injection hg' with hg'
          rw [← ht, ← ht', hg']
    rw [e]
    exact ho'

theorem appRec {w : World} {ops : Array Oper} {rest : List Oper} {o : Oper} {a : Act} {Q : Exit → Act → World → Prop} (hgd : o.guard = none) (s x : Operand)
    (ho : o.op = .call { callee := .builtin .append, args := #[s, x], argTypes := #[36, 36] })
    {base n c m cx : Nat} {A Ax : Option Addr} {L : List (List UInt8)} {l : List UInt8} (hs : a.eval s = .slice A n c) (hown : OwnR w base A n c L) (hx : a.eval x = .slice (some ⟨w.heap.size, 0, none⟩) 1 1)
    (hl : Elt w base Ax l) (hm : l.length = m) (hmc : m ≤ cx) (hcx : cx ≤ maxLen) (hbytes : n ≤ 1000000000000) (hbase : base ≤ w.heap.size)
    (h : ∀ A' c' w', OwnR w' base A' (n + 1) c' (L ++ [l]) → (w.alloc (.cells #[.slice Ax m cx] 22)).grownBy w' (Value.slice A n c).ownBlock → wpList Try.prog ops Q rest (a.put o.dst (.slice A' (n + 1) c')) w') :
    wpList Try.prog ops Q (o :: rest) a (w.alloc (.cells #[.slice Ax m cx] 22)) := appRecE (by decide) hgd s x ho hs hown hx hl hm hmc hcx hbytes hbase h

theorem infoInt : (Try.prog.info? 3).map (fun i => (i.zero, i.size, i.bytes)) = some (some (.int .i64 0), 1, 8) := by kernel_rfl

/-- A number as a cell holds it. -/
def nv (n : Nat) : Value := .int .i64 (n : Int)

/-- append of one number onto a row of numbers. -/
theorem appInt {w : World} {ops : Array Oper} {rest : List Oper} {o : Oper} {a : Act} {Q : Exit → Act → World → Prop} (hgd : o.guard = none) (s x : Operand)
    (ho : o.op = .call { callee := .builtin .append, args := #[s, x], argTypes := #[37, 37] })
    {base n c : Nat} {A : Option Addr} {vs : List Value} {C : Int} {v : Nat} (hC : C = (v : Int)) (hs : a.eval s = .slice A n c) (hown : Ov w base 3 1 A n c vs) (hx : a.eval x = .slice (some ⟨w.heap.size, 0, none⟩) 1 1)
    (hbytes : n ≤ 1000000000000) (hbase : base ≤ w.heap.size)
    (h : ∀ A' c' w', Ov w' base 3 1 A' (n + 1) c' (vs ++ [nv v]) → (w.alloc (.cells #[.int .i64 C] 3)).grownBy w' (Value.slice A n c).ownBlock → wpList Try.prog ops Q rest (a.put o.dst (.slice A' (n + 1) c')) w') :
    wpList Try.prog ops Q (o :: rest) a (w.alloc (.cells #[.int .i64 C] 3)) := by
  subst hC
  obtain ⟨i, hi, hz, hsz, hby⟩ := info_parts infoInt
  refine wpList_append_vs hgd s x _ ho 3 i (.int .i64 0) 1 8 Try.underlying37 hi hz hsz hby rfl (by omega) hs (hown.alloc _) hx (news := [nv v]) rfl ?_ ?_ (by omega) (by omega) (by simp; omega) (fun A' c' w' ho' hg' _ => h A' c' w' ho' hg')
  · intro j u hj
    match j, hj with
    | 0, hj => simp at hj; subst hj; simp [Addr.add, nv]
  · intro u hu; simp at hu; subst hu; rfl

end Go.Proofs.Ytcinicmcfoioeaa
