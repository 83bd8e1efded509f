/- The walk of store.kinds; what is looked up in that map. -/
import Derived.Test.YtcgkoojegopfnaaApp
import Derived.Lib.Hide
import Derived.MapKept
namespace Go.Proofs.Ytcgkoojegopfnaa
open Go.RowKit Go.MapKept

abbrev TM : TypeId := 82
abbrev TK : TypeId := 81

def kd0 : Value := .agg #[.int .i64 0, .int .i64 0, .bool false, .int .i64 0, .int .i64 0, .nilFunc]
theorem infoKind : (Try.prog.info? TK).map (fun i => i.zero) = some (some kd0) := by kernel_rfl

theorem alloc_set (w : World) (o o' : Obj) : { w.alloc o with heap := (w.alloc o).heap.setIfInBounds w.heap.size o' } = w.alloc o' := by
  have e : ∀ o, w.alloc o = { w with heap := w.heap.push o } := fun _ => rfl
  rw [e, e]
  have h : (w.heap.push o).setIfInBounds w.heap.size o' = w.heap.push o' := by
    refine Array.ext_getElem? fun i => ?_
    by_cases hi : w.heap.size = i
    · subst hi; simp
    · rw [Array.getElem?_setIfInBounds_ne hi, Array.getElem?_push, Array.getElem?_push, if_neg (Ne.symm hi), if_neg (Ne.symm hi)]
  simp only [h]

theorem run_ins (w : World) (es : Array MapEntry) (clock : Nat) (k : Int) (v : Value) (hnew : Instr.findNow (.int .i64) (.int .i64 k) es.toList 0 = some none) :
    (Instr.mapUpdate TM (.map (some w.heap.size)) (.int .i64 k) v).run Try.prog (w.alloc (.map es clock)) = .ok () (w.alloc (.map (es.push ⟨.int .i64 k, v, clock⟩) (clock + 1))) := by
  have hb : (w.alloc (.map es clock)).heap[w.heap.size]? = some (.map es clock) := heap_alloc_new w _
  simp [Instr.mapUpdate, run_underlying Try.underlying82, MapKept.run_getObj_map hb, run_checkKey Try.underlying3 (k := .int .i64 k) (by simp [IsKey]), run_findKey Try.underlying3 hnew, run_setObj_map _ hb, Result.andThen]
  exact alloc_set w _ _

theorem run_look (w : World) (g : Nat) (es : Array MapEntry) (clock : Nat) (k : Int) (ok : Bool) (r : Option (Nat × Value)) (hb : w.heap[g]? = some (.map es clock)) (hf : Instr.findNow (.int .i64) (.int .i64 k) es.toList 0 = some r) :
    (Instr.lookup TM (.map (some g)) (.int .i64 k) ok).run Try.prog w = .ok (if ok then .tuple #[match r with | some x => x.2 | none => kd0, .bool r.isSome] else match r with | some x => x.2 | none => kd0) w := by
  cases r with
  | none => simp [Instr.lookup, run_underlying Try.underlying82, MapKept.run_getObj_map hb, run_checkKey Try.underlying3 (k := .int .i64 k) (by simp [IsKey]), run_findKey Try.underlying3 hf, Result.andThen]; rfl
  | some x => simp [Instr.lookup, run_underlying Try.underlying82, MapKept.run_getObj_map hb, run_checkKey Try.underlying3 (k := .int .i64 k) (by simp [IsKey]), run_findKey Try.underlying3 hf, Result.andThen]

def kd1 : Value := .agg #[.int .i64 1, .int .i64 3, .bool false, .int .i64 0, .int .i64 0, .func (.func 58) #[] #[]]
def kd2 : Value := .agg #[.int .i64 0, .int .i64 1048576, .bool true, .int .i64 5, .int .i64 0, .func (.func 59) #[] #[]]
def kd3 : Value := .agg #[.int .i64 1, .int .i64 64, .bool true, .int .i64 1048576, .int .i64 200, .func (.func 60) #[] #[]]
def kd4 : Value := .agg #[.int .i64 1, .int .i64 64, .bool false, .int .i64 0, .int .i64 0, .func (.func 61) #[] #[]]
def kES : Array MapEntry := #[⟨.int .i64 1, kd1, 0⟩, ⟨.int .i64 2, kd2, 1⟩, ⟨.int .i64 3, kd3, 2⟩, ⟨.int .i64 4, kd4, 3⟩]
/-- Block g is the map of all kinds. -/
def Kmap (w : World) (g : Nat) : Prop := w.heap[g]? = some (.map kES 4)
theorem Kmap.step {w w' : World} {g : Nat} (h : Kmap w g) (hb : Below w.heap.size w w') : Kmap w' g := (hb.block g (Array.getElem?_eq_some_iff.1 h).1).trans h
def kdAt (k : Int) : Value := if k = 1 then kd1 else if k = 2 then kd2 else if k = 3 then kd3 else if k = 4 then kd4 else kd0
def kdOk (k : Int) : Bool := decide (1 ≤ k ∧ k ≤ 4)

theorem Kmap.look {w : World} {g : Nat} (h : Kmap w g) (k : Int) (ok : Bool) : (Instr.lookup TM (.map (some g)) (.int .i64 k) ok).run Try.prog w = .ok (if ok then .tuple #[kdAt k, .bool (kdOk k)] else kdAt k) w := by
  have hf : ∃ r, Instr.findNow (.int .i64) (.int .i64 k) kES.toList 0 = some r ∧ kdAt k = (match r with | some x => x.2 | none => kd0) ∧ kdOk k = r.isSome := by
    by_cases h1 : k = 1
    · subst h1; exact ⟨some (0, kd1), rfl, rfl, rfl⟩
    · by_cases h2 : k = 2
      · subst h2; exact ⟨some (1, kd2), rfl, rfl, rfl⟩
      · by_cases h3 : k = 3
        · subst h3; exact ⟨some (2, kd3), rfl, rfl, rfl⟩
        · by_cases h4 : k = 4
          · subst h4; exact ⟨some (3, kd4), rfl, rfl, rfl⟩
          · refine ⟨none, ?_, ?_, ?_⟩
            · have e1 : (k == 1) = false := by simpa using h1
              have e2 : (k == 2) = false := by simpa using h2
              have e3 : (k == 3) = false := by simpa using h3
              have e4 : (k == 4) = false := by simpa using h4
              simp only [kES, Instr.findNow, Instr.sameNow, if_true, e1, e2, e3, e4]
            · simp [kdAt, h1, h2, h3, h4]
            · unfold kdOk
              simp
              omega
  obtain ⟨r, h1, h2, h3⟩ := hf
  rw [run_look w g kES 4 k ok r h h1, h2, h3]
  cases r <;> rfl

def IsKinds (w : World) (e : Ending) (w' : World) : Prop := ∃ g, e = .returned (.map (some g)) ∧ Kmap w' g ∧ Below w.heap.size w w'

set_option maxRecDepth 100000 in
theorem kinds_any (w : World) : Calls Try.prog 47 #[] w (IsKinds w) := by
  have hmm := @run_makeMap Try.prog
  have h1 := run_ins w #[] 0 1 kd1 rfl
  have h2 := run_ins w #[⟨.int .i64 1, kd1, 0⟩] 1 2 kd2 rfl
  have h3 := run_ins w #[⟨.int .i64 1, kd1, 0⟩, ⟨.int .i64 2, kd2, 1⟩] 2 3 kd3 rfl
  have h4 := run_ins w #[⟨.int .i64 1, kd1, 0⟩, ⟨.int .i64 2, kd2, 1⟩, ⟨.int .i64 3, kd3, 2⟩] 3 4 kd4 rfl
  simp only [List.push_toArray, List.nil_append, List.cons_append, Nat.zero_add, Nat.reduceAdd, kd1, kd2, kd3, kd4] at h1 h2 h3 h4
  go_enter Try.func47, Try.ntmps47
  go_wp2_with fail
  go_ret
  exact ⟨w.heap.size, rfl, heap_alloc_new w _, (Below.refl _ _).alloc (Nat.le_refl _) _⟩
end Go.Proofs.Ytcgkoojegopfnaa
