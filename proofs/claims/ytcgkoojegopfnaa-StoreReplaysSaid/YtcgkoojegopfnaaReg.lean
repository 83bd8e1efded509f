/- A region that draws its order, whose operations leave alone what was there: what is known of each value, once for all orders. -/
import Derived.Test.YtcgkoojegopfnaaBytes
import Derived.Orders
import Derived.Deep.Draws
namespace Go.Proofs.Ytcgkoojegopfnaa
open Go.RowKit

/-- What is known of an operation's value, in whatever later world. -/
structure Sl where
  p : Value → World → Prop
  st : ∀ v w w', Below w.heap.size w w' → p v w → p v w'

def Sl.any : Sl := ⟨fun _ _ => True, fun _ _ _ _ _ => trivial⟩
def Sl.val (c : Value) : Sl := ⟨fun v _ => v = c, fun _ _ _ _ h => h⟩
/-- A slice that reads as the bytes l. -/
def IsBs (l : List UInt8) (v : Value) (w : World) : Prop := ∃ A n c, v = .slice A n c ∧ l.length = n ∧ n ≤ c ∧ c ≤ maxLen ∧ Bs w w.heap.size A l
def Sl.bs (l : List UInt8) : Sl := ⟨IsBs l, fun _ _ _ hb ⟨A, n, c, h1, h2, h3, h4, h5⟩ => ⟨A, n, c, h1, h2, h3, h4, h5.step hb⟩⟩

section
variable {P : Program} {ops : Array Oper} {Q : Exit → Act → World → Prop}

/-- The frame in which each operation's temporary holds its value. -/
def fill : Act → List Oper → (Nat → Value) → Nat → Act
  | a, [], _, _ => a
  | a, o :: l, vs, k => fill (a.put o.dst (vs k)) l vs (k + 1)

def dstsB : List Oper → Bool
  | [] => true
  | o :: r => r.all (fun o' => o.dst.isNone || o.dst != o'.dst) && dstsB r
def backB : List Oper → Nat → Bool
  | [], _ => true
  | o :: r, k => o.after.toList.all (fun e => !Region.binds .any e || decide (e.on < k)) && backB r (k + 1)

theorem put_none (a : Act) (v : Value) : a.put none v = a := rfl
theorem put_put (a : Act) (x : Option Tmp) (u v : Value) : (a.put x u).put x v = a.put x v := by
  cases x with
  | none => rfl
  | some d => simp [Act.put]
theorem put_self (a : Act) (x : Option Tmp) (v : Value) (h : ∀ d, x = some d → v = a.tmps.getD d undef) : a.put x v = a := by
  cases x with
  | none => rfl
  | some d =>
    rw [h d rfl]
    obtain ⟨t, ds⟩ := a
    simp only [Act.put, Act.mk.injEq, and_true]
    refine Array.ext_getElem? fun i => ?_
    by_cases hi : d = i
    · subst hi
      by_cases hl : d < t.size
      · simp [hl]
      · simp [hl]
    · simp [Array.getElem?_setIfInBounds_ne hi]

theorem fill_comm (x : Option Tmp) (v : Value) (vs : Nat → Value) : ∀ (l : List Oper) (a : Act) (k : Nat), (∀ o ∈ l, x = none ∨ x ≠ o.dst) → (fill a l vs k).put x v = fill (a.put x v) l vs k
  | [], _, _, _ => rfl
  | o :: l, a, k, h => by
    simp only [fill]
    rw [fill_comm x v vs l _ _ (fun o' ho' => h o' (List.mem_cons_of_mem _ ho'))]
    congr 1
    refine Act.put_comm a _ _ fun d hd hx => ?_
    rcases h o List.mem_cons_self with h1 | h1
    · rw [h1] at hx; cases hx
    · exact h1 (hx.trans hd.symm)

theorem fill_congr (vs vs' : Nat → Value) : ∀ (l : List Oper) (a : Act) (k : Nat), (∀ j, k ≤ j → vs j = vs' j) → fill a l vs k = fill a l vs' k
  | [], _, _, _ => rfl
  | o :: l, a, k, h => by
    simp only [fill]
    rw [h k (Nat.le_refl _), fill_congr vs vs' l _ _ (fun j hj => h j (by omega))]

def upd (vs : Nat → Value) (k : Nat) (v : Value) : Nat → Value := fun j => if j = k then v else vs j

theorem fill_put (v : Value) : ∀ (l : List Oper) (a : Act) (vs : Nat → Value) (k j : Nat) (o : Oper), l[j]? = some o → dstsB l = true → (fill a l vs k).put o.dst v = fill a l (upd vs (k + j) v) k
  | [], _, _, _, _, _, h, _ => by simp at h
  | o0 :: l, a, vs, k, 0, o, h, hd => by
    obtain rfl : o0 = o := by simpa using h
    simp only [dstsB, Bool.and_eq_true, List.all_eq_true, Bool.or_eq_true] at hd
    simp only [fill]
    rw [fill_comm _ _ _ _ _ _ (fun o' ho' => by
      rcases hd.1 o' ho' with h1 | h1
      · exact .inl (by simpa using h1)
      · exact .inr (by simpa using h1)), put_put]
    have e : upd vs (k + 0) v k = v := by simp [upd]
    rw [e]
    exact fill_congr _ _ _ _ _ fun i hi => by unfold upd; rw [if_neg (by omega)]
  | o0 :: l, a, vs, k, j + 1, o, h, hd => by
    simp only [dstsB, Bool.and_eq_true] at hd
    simp only [fill]
    rw [fill_put v l _ vs (k + 1) j o (by simpa using h) hd.2]
    have e : upd vs (k + (j + 1)) v k = vs k := by unfold upd; rw [if_neg (by omega)]
    rw [e, show k + 1 + j = k + (j + 1) by omega]

theorem fill_self (vs : Nat → Value) : ∀ (l : List Oper) (a : Act) (k : Nat), (∀ j o d, l[j]? = some o → o.dst = some d → vs (k + j) = a.tmps.getD d undef) → fill a l vs k = a
  | [], _, _, _ => rfl
  | o :: l, a, k, h => by
    simp only [fill]
    rw [put_self a o.dst (vs k) (fun d hd => h 0 o d rfl hd)]
    exact fill_self vs l a (k + 1) fun j o' d h1 h2 => by rw [← h (j + 1) o' d (by simpa using h1) h2]; congr 1; omega

/-- What an operation must give: a value of which this is known, nothing that was there being changed. -/
def Giv (w1 : World) (s : Sl) (v : Value) (w : World) : Prop := Below w1.heap.size w1 w ∧ s.p v w
def givesUpon (P : Program) (G : Value → World → Prop) : Result Next → Prop
  | .ok (.value v) w' => G v w'
  | .ok .skip w' => G undef w'
  | .ok (.enter f args) w' => Calls P f args w' fun e w'' => ∃ v, e = .returned v ∧ G v w''
  | _ => False

theorem gives_pure {w1 : World} {s : Sl} {v : Value} (h : s.p v w1) : givesUpon P (Giv w1 s) (.ok (.value v) w1) := ⟨Below.refl _ _, h⟩
theorem gives_value {w1 w : World} {s : Sl} {v : Value} (hb : Below w1.heap.size w1 w) (h : s.p v w) : givesUpon P (Giv w1 s) (.ok (.value v) w) := ⟨hb, h⟩
theorem gives_enter {w1 : World} {s : Sl} {f : FuncId} {args : Array Value} (h : Calls P f args w1 fun e w'' => ∃ v, e = .returned v ∧ Giv w1 s v w'') : givesUpon P (Giv w1 s) (.ok (.enter f args) w1) := h

def DepI (I : Nat → Sl) (vs : Nat → Value) (w : World) : List Edge → Prop
  | [] => True
  | e :: es => (match Region.binds .any e with | true => (I e.on).p (vs e.on) w | false => True) ∧ DepI I vs w es

theorem DepI.of {I : Nat → Sl} {vs : Nat → Value} {w : World} : ∀ {es : List Edge}, (∀ e ∈ es, Region.binds .any e = true → (I e.on).p (vs e.on) w) → DepI I vs w es
  | [], _ => trivial
  | e :: _, h => ⟨by
      have h0 := h e List.mem_cons_self
      cases hb : Region.binds .any e with
      | true => exact h0 hb
      | false => trivial, DepI.of fun e he => h e (List.mem_cons_of_mem _ he)⟩

/-- What is asked of the operations, one by one. -/
def AskI (P : Program) (ops : Array Oper) (I : Nat → Sl) (T : (Nat → Value) → Act) (w0 : World) : List Oper → Nat → Prop
  | [], _ => True
  | o :: r, k => (∀ vs w1, Below w0.heap.size w0 w1 → DepI I vs w1 o.after.toList →
      if Region.wanted o (yielded ops (T vs).tmps) then givesUpon P (Giv w1 (I k)) ((execOp (T vs).eval o).run P w1) else (I k).p undef w1) ∧ AskI P ops I T w0 r (k + 1)

theorem askI_cons {I : Nat → Sl} {T : (Nat → Value) → Act} {w0 : World} {o : Oper} {r : List Oper} {k : Nat}
    (h : ∀ vs w1, Below w0.heap.size w0 w1 → DepI I vs w1 o.after.toList →
      if Region.wanted o (yielded ops (T vs).tmps) then givesUpon P (Giv w1 (I k)) ((execOp (T vs).eval o).run P w1) else (I k).p undef w1) (hr : AskI P ops I T w0 r (k + 1)) : AskI P ops I T w0 (o :: r) k := ⟨h, hr⟩
theorem askI_nil {I : Nat → Sl} {T : (Nat → Value) → Act} {w0 : World} {k : Nat} : AskI P ops I T w0 [] k := trivial

theorem AskI.at {I : Nat → Sl} {T : (Nat → Value) → Act} {w0 : World} : ∀ {l : List Oper} {k j : Nat} {o : Oper}, AskI P ops I T w0 l k → l[j]? = some o →
    ∀ vs w1, Below w0.heap.size w0 w1 → DepI I vs w1 o.after.toList →
      if Region.wanted o (yielded ops (T vs).tmps) then givesUpon P (Giv w1 (I (k + j))) ((execOp (T vs).eval o).run P w1) else (I (k + j)).p undef w1
  | [], _, _, _, _, h => by simp at h
  | o0 :: l, k, 0, o, h, ho => by
    obtain rfl : o0 = o := by simpa using ho
    exact h.1
  | o0 :: l, k, j + 1, o, h, ho => by
    have h2 := AskI.at (j := j) h.2 (by simpa using ho)
    rw [show k + 1 + j = k + (j + 1) by omega] at h2
    exact h2

theorem backB_spec : ∀ {l : List Oper} {k j : Nat} {o : Oper}, backB l k = true → l[j]? = some o → ∀ e ∈ o.after, Region.binds .any e = true → e.on < k + j
  | [], _, _, _, _, h => by simp at h
  | o0 :: l, k, 0, o, h, ho => by
    obtain rfl : o0 = o := by simpa using ho
    simp only [backB, Bool.and_eq_true, List.all_eq_true] at h
    intro e he hb
    have := h.1 e (by simpa using he)
    simpa [hb] using this
  | o0 :: l, k, j + 1, o, h, ho => by
    simp only [backB, Bool.and_eq_true] at h
    have h2 := backB_spec (j := j) h.2 (by simpa using ho)
    intro e he hb
    have := h2 e he hb
    omega

def unl (listed : Array Bool) : Nat := listed.toList.countP (fun b => !b)

theorem unl_set (listed : Array Bool) (i : Nat) (h : listed.getD i true = false) : unl (listed.setIfInBounds i true) + 1 = unl listed := by
  have hi : i < listed.size := by
    rcases Nat.lt_or_ge i listed.size with h' | h'
    · exact h'
    · simp [Array.getElem?_eq_none h'] at h
  have hv : listed.toList[i]'(by simpa using hi) = false := by simpa [hi] using h
  unfold unl
  rw [Array.toList_setIfInBounds, List.countP_set (by simpa using hi), hv]
  have hpos : 0 < listed.toList.countP (fun b => !b) := List.countP_pos_iff.2 ⟨false, by rw [← hv]; exact List.getElem_mem _, rfl⟩
  generalize listed.toList.countP (fun b => !b) = m at *
  simp
  omega

theorem unl_zero {listed : Array Bool} (h : unl listed = 0) (j : Nat) : listed.getD j true = true := by
  unfold unl at h
  rw [List.countP_eq_zero] at h
  rcases Nat.lt_or_ge j listed.size with h' | h'
  · have := h listed[j] (by simp)
    simpa [h'] using this
  · simp [Array.getElem?_eq_none h']

/-- One walk over the operations serves every order. -/
theorem wpAny_inv {I : Nat → Sl} {T : (Nat → Value) → Act} {l : List Oper} {a : Act} {w0 : World} (hT : ∀ vs, fill a l vs 0 = T vs) (hd : dstsB l = true) (hbk : backB l 0 = true)
    (hask : AskI P l.toArray I T w0 l 0) (hend : ∀ vs w1, Below w0.heap.size w0 w1 → (∀ k, k < l.length → (I k).p (vs k) w1) → Q .normal (T vs) w1) :
    ∀ (fuel : Nat) (listed : Array Bool) (vs : Nat → Value) (w1 : World), listed.size = l.length → unl listed = fuel → Below w0.heap.size w0 w1 → (∀ k, k < l.length → listed.getD k true = true → (I k).p (vs k) w1) →
      wpAny P .any l.toArray Q fuel listed (T vs) w1
  | 0, listed, vs, w1, hs, hu, hb, hI => by
    refine ⟨?_, hend vs w1 hb fun k hk => hI k hk (unl_zero hu k)⟩
    refine List.eq_nil_iff_forall_not_mem.2 fun j hj => ?_
    have := (mem_ready.1 hj).1
    rw [unl_zero hu j] at this
    cases this
  | fuel + 1, listed, vs, w1, hs, hu, hb, hI => by
    constructor
    · intro hr
      refine hend vs w1 hb fun k hk => hI k hk ?_
      -- the least one that is not listed would be ready
      have hall : ∀ m k, k < m → k < l.length → listed.getD k true = true := by
        intro m
        induction m with
        | zero => intro k h; omega
        | succ m ih =>
          intro k hkm hkl
          by_cases hlt : k < m
          · exact ih k hlt hkl
          · obtain rfl : k = m := by omega
            cases hg : listed.getD k true with
            | true => rfl
            | false =>
              exfalso
              have hk' : l[k]? = some l[k] := List.getElem?_eq_getElem hkl
              have : k ∈ Region.ready .any l.toArray listed := mem_ready.2 ⟨hg, l[k], by simp, fun e he hbd => by
                have hlt := backB_spec hbk hk' e he hbd
                have := ih e.on (by omega) (by omega)
                rcases Nat.lt_or_ge e.on listed.size with h' | h'
                · simpa [h'] using this
                · omega⟩
              rw [hr] at this
              cases this
      exact hall (k + 1) k (by omega) hk
    · intro i hi
      obtain ⟨hun, o, ho, hafter⟩ := mem_ready.1 hi
      have ho' : l[i]? = some o := by simpa using ho
      have hil : i < l.length := (List.getElem?_eq_some_iff.1 ho').1
      have hdep : DepI I vs w1 o.after.toList := DepI.of fun e he hbd => by
        have h1 := hafter e (by simpa using he) hbd
        have h2 := backB_spec hbk ho' e (by simpa using he) hbd
        refine hI e.on (by omega) ?_
        rcases Nat.lt_or_ge e.on listed.size with h' | h'
        · simpa [h'] using h1
        · omega
      have hstep := hask.at ho' vs w1 hb hdep
      rw [Nat.zero_add] at hstep
      have next : ∀ v w2, Below w1.heap.size w1 w2 → (I i).p v w2 → wpAny P .any l.toArray Q fuel (listed.setIfInBounds i true) ((T vs).put o.dst v) w2 := by
        intro v w2 hb2 hv
        rw [← hT vs, fill_put v l a vs 0 i o ho' hd, hT, Nat.zero_add]
        refine wpAny_inv hT hd hbk hask hend fuel _ _ w2 (by simpa using hs) (by have := unl_set listed i hun; omega) (hb.trans (hb2.mono hb.size)) fun k hk hl => ?_
        unfold upd
        by_cases hki : k = i
        · subst hki; rw [if_pos rfl]; exact hv
        · rw [if_neg hki]
          rw [getD_set_ne _ (Ne.symm hki)] at hl
          exact (I k).st _ _ _ hb2 (hI k hk hl)
      unfold wpOp
      simp only [ho]
      split
      · rename_i hw
        simp only [hw, if_true] at hstep
        refine .inl ?_
        unfold Oper.wp
        generalize (execOp (T vs).eval o).run P w1 = r at *
        cases r with
        | ok n w' =>
          cases n <;> simp only [givesUpon] at hstep <;> simp only [Oper.upon]
          case value v => exact next v w' hstep.1 hstep.2
          case skip => exact next _ w' hstep.1 hstep.2
          case enter f args => exact hstep.mono fun e w'' ⟨v, he, h1, h2⟩ => by subst he; exact next v w'' h1 h2
        | halt x w' => simp only [givesUpon] at hstep
      · rename_i hw
        rw [if_neg hw] at hstep
        exact next _ w1 (Below.refl _ _) hstep

theorem unl_rep (n : Nat) : unl (Array.replicate n false) = n := by
  unfold unl
  rw [Array.toList_replicate, List.countP_replicate]
  rfl

def SlI (Is : List Sl) (k : Nat) : Sl := Is.getD k Sl.any
def AllI (I : Nat → Sl) (vs : Nat → Value) (w : World) : List Oper → Nat → Prop
  | [], _ => True
  | _ :: l, k => (I k).p (vs k) w ∧ AllI I vs w l (k + 1)
theorem AllI.of {I : Nat → Sl} {vs : Nat → Value} {w : World} : ∀ (l : List Oper) (k : Nat), (∀ j, j < l.length → (I (k + j)).p (vs (k + j)) w) → AllI I vs w l k
  | [], _, _ => trivial
  | _ :: l, k, h => ⟨h 0 (by simp), AllI.of l (k + 1) fun j hj => by
      have := h (j + 1) (by simpa using hj)
      rw [show k + (j + 1) = k + 1 + j by omega] at this
      exact this⟩

/-- The same of a region. -/
theorem wp_region_inv {id : Nat} {a : Act} {w : World} {l : List Oper} (hm : P.follows .mixedOrders = true) (Is : List Sl) {T : (Nat → Value) → Act} (hd : dstsB l = true) (hbk : backB l 0 = true) (hT : ∀ vs, fill a l vs 0 = T vs)
    (hask : AskI P l.toArray (SlI Is) T w l 0) (hend : ∀ vs w1, Below w.heap.size w w1 → AllI (SlI Is) vs w1 l 0 → Q .normal (T vs) w1) : (Code.region id l.toArray true).wp P Q a w := by
  refine wp_region_any hm ?_
  have h0 : Below w.heap.size w { w with drawn := w.drawn + 1 } := (Below.refl _ _).drew
  obtain ⟨vs, hvs⟩ : ∃ vs : Nat → Value, ∀ j o d, l[j]? = some o → o.dst = some d → vs (0 + j) = a.tmps.getD d undef :=
    ⟨fun j => match (l[j]?).bind (·.dst) with | some d => a.tmps.getD d undef | none => undef, fun j o d h1 h2 => by simp [h1, h2]⟩
  have ha := fill_self vs l a 0 hvs
  rw [hT] at ha
  have key := wpAny_inv (Q := Q) hT hd hbk hask (fun vs w1 hb h => hend vs w1 hb (AllI.of l 0 fun j hj => by rw [Nat.zero_add]; exact h j hj)) l.length (Array.replicate l.length false) vs _ (by simp) (unl_rep _) h0 (fun k hk hl => by simp [hk] at hl)
  rw [ha] at key
  simpa using key
end

end Go.Proofs.Ytcgkoojegopfnaa
