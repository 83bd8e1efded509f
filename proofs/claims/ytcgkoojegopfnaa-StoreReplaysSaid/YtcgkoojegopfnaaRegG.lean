/- The same as RegR, with a ghost: two numbers, that an effect may set. (Printed by gen_regg.py from XRegR.) -/
import Derived.Test.YtcgkoojegopfnaaRegR
namespace Go.Proofs.Ytcgkoojegopfnaa
open Go.RowKit

abbrev Gh : Type := Nat × Nat

/-- What is known of an operation: the stages at which it may run, whether it changes what was there, and of its value (beside those of operations that it waits for), up to which stage. -/
structure Gx (R : Nat → Gh → Gh → World → World → Prop) where
  lo : Nat
  hi : Nat
  fx : Bool
  born : Nat
  life : Option Nat
  dep : List Nat
  p : Gh → (Nat → Value) → Value → World → Prop
  loc : ∀ y f f' v w, (∀ j ∈ dep, f j = f' j) → p y f v w → p y f' v w
  st : ∀ y f v w w', Below w.heap.size w w' → p y f v w → p y f v w'
  keep : ∀ s y y' f v w w', born ≤ s → (∀ j, life = some j → s < j) → R s y y' w w' → p y f v w → p y' f v w'
  hborn : born ≤ lo + fx.toNat

def Gx.any (R : Nat → Gh → Gh → World → World → Prop) : Gx R := ⟨0, 1000000, false, 0, none, [], fun _ _ _ _ => True, fun _ _ _ _ _ _ _ => trivial, fun _ _ _ _ _ _ _ => trivial, fun _ _ _ _ _ _ _ _ _ _ _ => trivial, by decide⟩
/-- A value, at whatever stage. -/
def Gx.val {R : Nat → Gh → Gh → World → World → Prop} (c : Value) : Gx R := ⟨0, 1000000, false, 0, none, [], fun _ _ v _ => v = c, fun _ _ _ _ _ _ h => h, fun _ _ _ _ _ _ h => h, fun _ _ _ _ _ _ _ _ _ _ h => h, by decide⟩
/-- A value, of an operation that runs at these stages. -/
def Gx.valAt {R : Nat → Gh → Gh → World → World → Prop} (lo hi : Nat) (c : Value) : Gx R := ⟨lo, hi, false, 0, none, [], fun _ _ v _ => v = c, fun _ _ _ _ _ _ h => h, fun _ _ _ _ _ _ h => h, fun _ _ _ _ _ _ _ _ _ _ h => h, Nat.zero_le _⟩
/-- A value, of an operation that changes what was there. -/
def Gx.fxAt {R : Nat → Gh → Gh → World → World → Prop} (j : Nat) (c : Value) : Gx R := ⟨j, j, true, 0, none, [], fun _ _ v _ => v = c, fun _ _ _ _ _ _ h => h, fun _ _ _ _ _ _ h => h, fun _ _ _ _ _ _ _ _ _ _ h => h, Nat.zero_le _⟩
/-- What is known of it alone at the stage at which it was made. -/
def Gx.at {R : Nat → Gh → Gh → World → World → Prop} (j : Nat) (p : Value → World → Prop) (st : ∀ v w w', Below w.heap.size w w' → p v w → p v w') : Gx R := ⟨j, j, false, j, some j, [], fun _ _ => p, fun _ _ _ _ _ _ h => h, fun _ _ => st, fun s _ _ _ _ _ _ h1 h2 _ _ => absurd (h2 j rfl) (by omega), Nat.le_add_right _ _⟩
/-- The same, of an operation that changes what was there: at the stage behind it. -/
def Gx.fx_ {R : Nat → Gh → Gh → World → World → Prop} (j : Nat) (p : Value → World → Prop) (st : ∀ v w w', Below w.heap.size w w' → p v w → p v w') : Gx R := ⟨j, j, true, j + 1, some (j + 1), [], fun _ _ => p, fun _ _ _ _ _ _ h => h, fun _ _ => st, fun s _ _ _ _ _ _ h1 h2 _ _ => absurd (h2 (j + 1) rfl) (by omega), Nat.le_refl _⟩
/-- The same, with a word on the value of another operation, that it waits for. -/
def Gx.on_ {R : Nat → Gh → Gh → World → World → Prop} (j : Nat) (k : Nat) (p : Value → Value → World → Prop) (st : ∀ u v w w', Below w.heap.size w w' → p u v w → p u v w') : Gx R := ⟨j, j, false, j, some j, [k], fun _ f => p (f k), fun _ f f' v w h h1 => by rw [← h k (List.mem_singleton.2 rfl)]; exact h1, fun _ f => st (f k), fun s _ _ _ _ _ _ h1 h2 _ _ => absurd (h2 j rfl) (by omega), Nat.le_add_right _ _⟩
def Gx.fxOn {R : Nat → Gh → Gh → World → World → Prop} (j : Nat) (k : Nat) (p : Value → Value → World → Prop) (st : ∀ u v w w', Below w.heap.size w w' → p u v w → p u v w') : Gx R := ⟨j, j, true, j + 1, some (j + 1), [k], fun _ f => p (f k), fun _ f f' v w h h1 => by rw [← h k (List.mem_singleton.2 rfl)]; exact h1, fun _ f => st (f k), fun s _ _ _ _ _ _ h1 h2 _ _ => absurd (h2 (j + 1) rfl) (by omega), Nat.le_refl _⟩
/-- A slice that reads as the bytes l, at the stage at which it was made. -/
def Gx.bsAt {R : Nat → Gh → Gh → World → World → Prop} (j : Nat) (l : List UInt8) : Gx R := Gx.at j (IsBs l) (isBs_step l)
def Gx.ownAt {R : Nat → Gh → Gh → World → World → Prop} (j base : Nat) (l : List UInt8) : Gx R := Gx.at j (IsOwn base l) (isOwn_step base l)
def Gx.fxOwn {R : Nat → Gh → Gh → World → World → Prop} (j base : Nat) (l : List UInt8) : Gx R := Gx.fx_ j (IsOwn base l) (isOwn_step base l)

/-- What is known of it at a stage. -/
def Gx.av {R : Nat → Gh → Gh → World → World → Prop} (x : Gx R) (s : Nat) (y : Gh) (f : Nat → Value) (v : Value) (w : World) : Prop := match x.life with | none => x.p y f v w | some j => s ≤ j → x.p y f v w

theorem Gx.av_val {R : Nat → Gh → Gh → World → World → Prop} {s : Nat} {y : Gh} {f : Nat → Value} {c v : Value} {w : World} : (Gx.val (R := R) c).av s y f v w = (v = c) := rfl
theorem Gx.av_valAt {R : Nat → Gh → Gh → World → World → Prop} {s lo hi : Nat} {y : Gh} {f : Nat → Value} {c v : Value} {w : World} : (Gx.valAt (R := R) lo hi c).av s y f v w = (v = c) := rfl
theorem Gx.av_fxAt {R : Nat → Gh → Gh → World → World → Prop} {s j : Nat} {y : Gh} {f : Nat → Value} {c v : Value} {w : World} : (Gx.fxAt (R := R) j c).av s y f v w = (v = c) := rfl
theorem Gx.av_bsAt {R : Nat → Gh → Gh → World → World → Prop} {s j : Nat} {y : Gh} {f : Nat → Value} {l : List UInt8} {v : Value} {w : World} : (Gx.bsAt (R := R) j l).av s y f v w = (s ≤ j → IsBs l v w) := rfl
theorem Gx.av_ownAt {R : Nat → Gh → Gh → World → World → Prop} {s j base : Nat} {y : Gh} {f : Nat → Value} {l : List UInt8} {v : Value} {w : World} : (Gx.ownAt (R := R) j base l).av s y f v w = (s ≤ j → IsOwn base l v w) := rfl
theorem Gx.av_fxOwn {R : Nat → Gh → Gh → World → World → Prop} {s j base : Nat} {y : Gh} {f : Nat → Value} {l : List UInt8} {v : Value} {w : World} : (Gx.fxOwn (R := R) j base l).av s y f v w = (s ≤ j + 1 → IsOwn base l v w) := rfl
theorem Gx.av_at {R : Nat → Gh → Gh → World → World → Prop} {s j : Nat} {y : Gh} {f : Nat → Value} {p : Value → World → Prop} {st : ∀ v w w', Below w.heap.size w w' → p v w → p v w'} {v : Value} {w : World} : (Gx.at (R := R) j p st).av s y f v w = (s ≤ j → p v w) := rfl
theorem Gx.av_fx {R : Nat → Gh → Gh → World → World → Prop} {s j : Nat} {y : Gh} {f : Nat → Value} {p : Value → World → Prop} {st : ∀ v w w', Below w.heap.size w w' → p v w → p v w'} {v : Value} {w : World} : (Gx.fx_ (R := R) j p st).av s y f v w = (s ≤ j + 1 → p v w) := rfl
theorem Gx.av_on {R : Nat → Gh → Gh → World → World → Prop} {s j k : Nat} {y : Gh} {f : Nat → Value} {p : Value → Value → World → Prop} {st : ∀ u v w w', Below w.heap.size w w' → p u v w → p u v w'} {v : Value} {w : World} : (Gx.on_ (R := R) j k p st).av s y f v w = (s ≤ j → p (f k) v w) := rfl
theorem Gx.av_fxOn {R : Nat → Gh → Gh → World → World → Prop} {s j k : Nat} {y : Gh} {f : Nat → Value} {p : Value → Value → World → Prop} {st : ∀ u v w w', Below w.heap.size w w' → p u v w → p u v w'} {v : Value} {w : World} : (Gx.fxOn (R := R) j k p st).av s y f v w = (s ≤ j + 1 → p (f k) v w) := rfl

theorem Gx.av_of {R : Nat → Gh → Gh → World → World → Prop} {x : Gx R} {s : Nat} {y : Gh} {f : Nat → Value} {v : Value} {w : World} (h : x.p y f v w) : x.av s y f v w := by
  unfold Gx.av
  split
  · exact h
  · exact fun _ => h
theorem Gx.av_step {R : Nat → Gh → Gh → World → World → Prop} {x : Gx R} {s : Nat} {y : Gh} {f : Nat → Value} {v : Value} {w w' : World} (hb : Below w.heap.size w w') (h : x.av s y f v w) : x.av s y f v w' := by
  unfold Gx.av at h ⊢
  split at h
  · exact x.st _ _ _ _ _ hb h
  · exact fun hs => x.st _ _ _ _ _ hb (h hs)
theorem Gx.av_loc {R : Nat → Gh → Gh → World → World → Prop} {x : Gx R} {s : Nat} {y : Gh} {f f' : Nat → Value} {v : Value} {w : World} (hf : ∀ j ∈ x.dep, f j = f' j) (h : x.av s y f v w) : x.av s y f' v w := by
  unfold Gx.av at h ⊢
  split at h
  · exact x.loc _ _ _ _ _ hf h
  · exact fun hs => x.loc _ _ _ _ _ hf (h hs)
theorem Gx.av_next {R : Nat → Gh → Gh → World → World → Prop} {x : Gx R} {s : Nat} {y : Gh} {f : Nat → Value} {v : Value} {w w' : World} (hlo : x.born ≤ s) {y' : Gh} (hb : R s y y' w w') (h : x.av s y f v w) : x.av (s + 1) y' f v w' := by
  unfold Gx.av at h ⊢
  split at h
  · rename_i hl
    exact x.keep s _ _ _ _ _ _ hlo (fun j hj => by rw [hl] at hj; cases hj) hb h
  · rename_i j hl
    intro hs
    exact x.keep s _ _ _ _ _ _ hlo (fun j' hj => by rw [hl] at hj; injection hj with hj; omega) hb (h (by omega))

section
variable {P : Program} {B : Nat} {R : Nat → Gh → Gh → World → World → Prop} {Q : Exit → Act → World → Prop}

def Gx.sig (x : Gx R) : Nat × Nat × Bool × List Nat := (x.lo, x.hi, x.fx, x.dep)
def GxI (Is : List (Gx R)) (k : Nat) : Gx R := Is.getD k (Gx.any R)

theorem stG_spec {M eff : List Nat} : ∀ {Is : List (Gx R)} {k j : Nat}, stB M eff (Is.map Gx.sig) k = true → j < Is.length →
    loB M eff (k + j) (GxI Is j).lo = true ∧ hiB M eff (k + j) (GxI Is j).hi = true ∧ (GxI Is j).fx = eff.contains (k + j) ∧ ∀ e ∈ (GxI Is j).dep, (M.getD (k + j) 0).testBit e = true
  | [], _, _, _, h => absurd h (by simp)
  | x :: Is, k, 0, h, _ => by
    simp only [List.map_cons, Gx.sig, stB, Bool.and_eq_true, beq_iff_eq, List.all_eq_true] at h
    exact ⟨h.1.1.1.1, h.1.1.1.2, h.1.1.2, h.1.2⟩
  | x :: Is, k, j + 1, h, hj => by
    simp only [List.map_cons, Gx.sig, stB, Bool.and_eq_true] at h
    have := stG_spec (Is := Is) (k := k + 1) (j := j) h.2 (by simpa using hj)
    rw [show k + (j + 1) = k + 1 + j by omega]
    exact this

/-- What an operation must give. -/
def GivG (St : Nat → Gh → World → Prop) (w1 : World) (x : Gx R) (s : Nat) (y : Gh) (f : Nat → Value) (v : Value) (w : World) : Prop := match x.fx with
  | true => ∃ y', x.p y' f v w ∧ R s y y' w1 w ∧ St (s + 1) y' w
  | false => x.p y f v w ∧ Below w1.heap.size w1 w

theorem givg_of {St : Nat → Gh → World → Prop} {w1 w : World} {x : Gx R} {s : Nat} {y : Gh} {f : Nat → Value} {v : Value} (hx : x.fx = false) (hb : Below w1.heap.size w1 w) (h : x.p y f v w) : GivG St w1 x s y f v w := by
  unfold GivG
  rw [hx]
  exact ⟨h, hb⟩
theorem givg_value {St : Nat → Gh → World → Prop} {w1 w : World} {x : Gx R} {s : Nat} {y : Gh} {f : Nat → Value} {v : Value} (hx : x.fx = false) (hb : Below w1.heap.size w1 w) (h : x.p y f v w) : givesUpon P (GivG St w1 x s y f) (.ok (.value v) w) := givg_of hx hb h
theorem givg_pure {St : Nat → Gh → World → Prop} {w1 : World} {x : Gx R} {s : Nat} {y : Gh} {f : Nat → Value} {v : Value} (hx : x.fx = false) (h : x.p y f v w1) : givesUpon P (GivG St w1 x s y f) (.ok (.value v) w1) := givg_of hx (Below.refl _ _) h
theorem givg_fx {St : Nat → Gh → World → Prop} {w1 w : World} {x : Gx R} {s : Nat} {y : Gh} {f : Nat → Value} {v : Value} (y' : Gh) (hx : x.fx = true) (hb : R s y y' w1 w) (hs : St (s + 1) y' w) (h : x.p y' f v w) : GivG St w1 x s y f v w := by
  unfold GivG
  rw [hx]
  exact ⟨y', h, hb, hs⟩
theorem givg_skip {St : Nat → Gh → World → Prop} {w1 w : World} {x : Gx R} {s : Nat} {y : Gh} {f : Nat → Value} (y' : Gh) (hx : x.fx = true) (hb : R s y y' w1 w) (hs : St (s + 1) y' w) (h : x.p y' f undef w) : givesUpon P (GivG St w1 x s y f) (.ok .skip w) := givg_fx y' hx hb hs h
theorem givg_enter {St : Nat → Gh → World → Prop} {w1 : World} {x : Gx R} {s : Nat} {y : Gh} {vs : Nat → Value} {f : FuncId} {args : Array Value} (h : Calls P f args w1 fun e w'' => ∃ v, e = .returned v ∧ GivG St w1 x s y vs v w'') : givesUpon P (GivG St w1 x s y vs) (.ok (.enter f args) w1) := h

def DepG (I : Nat → Gx R) (vs : Nat → Value) (w : World) (s : Nat) (y : Gh) : List Edge → Prop
  | [] => True
  | e :: es => (match Region.binds .any e with | true => (I e.on).av s y vs (vs e.on) w | false => True) ∧ DepG I vs w s y es

theorem DepG.of {I : Nat → Gx R} {vs : Nat → Value} {w : World} {s : Nat} {y : Gh} : ∀ {es : List Edge}, (∀ e ∈ es, Region.binds .any e = true → (I e.on).av s y vs (vs e.on) w) → DepG I vs w s y es
  | [], _ => trivial
  | e :: _, h => ⟨by
      have h0 := h e List.mem_cons_self
      cases hb : Region.binds .any e with
      | true => exact h0 hb
      | false => trivial, DepG.of fun e he => h e (List.mem_cons_of_mem _ he)⟩

/-- What is asked of the operations, one by one. -/
def AskG (P : Program) (l0 : List Oper) (a0 : Act) (ops : Array Oper) (I : Nat → Gx R) (T : (Nat → Value) → Act) (w0 : World) (St : Nat → Gh → World → Prop) : List Oper → Nat → Prop
  | [], _ => True
  | o :: r, k => (∀ vs w1 s y, (I k).lo ≤ s → s ≤ (I k).hi → Below B w0 w1 → St s y w1 → DepG I vs w1 s y o.after.toList → Yet l0 a0 vs k →
      if Region.wanted o (yielded ops (T vs).tmps) then givesUpon P (GivG St w1 (I k) s y vs) ((execOp (T vs).eval o).run P w1) else GivG St w1 (I k) s y vs undef w1) ∧ AskG P l0 a0 ops I T w0 St r (k + 1)

theorem askG_cons {l0 : List Oper} {a0 : Act} {ops : Array Oper} {I : Nat → Gx R} {T : (Nat → Value) → Act} {w0 : World} {St : Nat → Gh → World → Prop} {o : Oper} {r : List Oper} {k : Nat}
    (h : ∀ vs w1 s y, (I k).lo ≤ s → s ≤ (I k).hi → Below B w0 w1 → St s y w1 → DepG I vs w1 s y o.after.toList → Yet l0 a0 vs k →
      if Region.wanted o (yielded ops (T vs).tmps) then givesUpon P (GivG St w1 (I k) s y vs) ((execOp (T vs).eval o).run P w1) else GivG St w1 (I k) s y vs undef w1) (hr : AskG (B := B) P l0 a0 ops I T w0 St r (k + 1)) : AskG (B := B) P l0 a0 ops I T w0 St (o :: r) k := ⟨h, hr⟩
theorem askG_nil {l0 : List Oper} {a0 : Act} {ops : Array Oper} {I : Nat → Gx R} {T : (Nat → Value) → Act} {w0 : World} {St : Nat → Gh → World → Prop} {k : Nat} : AskG (B := B) P l0 a0 ops I T w0 St [] k := trivial

theorem AskG.at {l0 : List Oper} {a0 : Act} {ops : Array Oper} {I : Nat → Gx R} {T : (Nat → Value) → Act} {w0 : World} {St : Nat → Gh → World → Prop} : ∀ {l : List Oper} {k j : Nat} {o : Oper}, AskG (B := B) P l0 a0 ops I T w0 St l k → l[j]? = some o →
    ∀ vs w1 s y, (I (k + j)).lo ≤ s → s ≤ (I (k + j)).hi → Below B w0 w1 → St s y w1 → DepG I vs w1 s y o.after.toList → Yet l0 a0 vs (k + j) →
      if Region.wanted o (yielded ops (T vs).tmps) then givesUpon P (GivG St w1 (I (k + j)) s y vs) ((execOp (T vs).eval o).run P w1) else GivG St w1 (I (k + j)) s y vs undef w1
  | [], _, _, _, _, h => by simp at h
  | o0 :: l, k, 0, o, h, ho => by
    obtain rfl : o0 = o := by simpa using ho
    exact h.1
  | o0 :: l, k, j + 1, o, h, ho => by
    have h2 := AskG.at (j := j) h.2 (by simpa using ho)
    rw [show k + 1 + j = k + (j + 1) by omega] at h2
    exact h2

/-- What holds on the way. -/
structure WayG (a : Act) (l : List Oper) (eff : List Nat) (I : Nat → Gx R) (St : Nat → Gh → World → Prop) (w0 : World) (listed : Array Bool) (vs : Nat → Value) (w1 : World) (s : Nat) (y : Gh) : Prop where
  size : listed.size = l.length
  below : Below B w0 w1
  st : St s y w1
  le : s ≤ eff.length
  at' : ∀ j e, eff[j]? = some e → (listed.getD e true = true ↔ j < s)
  closed : Closed l (fun k => listed.getD k true = true)
  init : ∀ k o d, l[k]? = some o → o.dst = some d → listed.getD k true = false → vs k = a.tmps.getD d undef
  av : ∀ k, k < l.length → listed.getD k true = true → (I k).born ≤ s ∧ (I k).av s y vs (vs k) w1

theorem wpAny_invG {Is : List (Gx R)} {T : (Nat → Value) → Act} {l : List Oper} {eff : List Nat} {St : Nat → Gh → World → Prop} {a : Act} {w0 : World} (hB : B ≤ w0.heap.size) (hRB : ∀ s y y' w w', R s y y' w w' → Below B w w') (hlen : Is.length = l.length) (hT : ∀ vs, fill a l vs 0 = T vs) (hd : dstsB l = true) (hbk : backB l 0 = true)
    (hpairs : pairsB (ancs l []) eff = true) (hstg : stB (ancs l []) eff (Is.map Gx.sig) 0 = true) (hlt : ∀ e ∈ eff, e < l.length)
    (hSt : ∀ s y w w', Below w.heap.size w w' → St s y w → St s y w')
    {a0 : Act} (hask : AskG (B := B) P l a0 l.toArray (GxI Is) T w0 St l 0) (hend : ∀ vs w1 y, Below B w0 w1 → St eff.length y w1 → (∀ k, k < l.length → (GxI Is k).av eff.length y vs (vs k) w1) → Q .normal (T vs) w1) :
    ∀ (fuel : Nat) (listed : Array Bool) (vs : Nat → Value) (w1 : World) (s : Nat) (y : Gh), unl listed = fuel → WayG (B := B) a0 l eff (GxI Is) St w0 listed vs w1 s y → wpAny P .any l.toArray Q fuel listed (T vs) w1
  | 0, listed, vs, w1, s, y, hu, hW => by
    refine ⟨?_, ?_⟩
    · refine List.eq_nil_iff_forall_not_mem.2 fun j hj => ?_
      have := (mem_ready.1 hj).1
      rw [unl_zero hu j] at this
      cases this
    · have hs : s = eff.length := by
        rcases Nat.lt_or_ge s eff.length with h | h
        · have := (hW.at' s eff[s] (by simp [h])).1 (unl_zero hu _)
          omega
        · have := hW.le; omega
      subst hs
      exact hend vs w1 y hW.below hW.st fun k hk => (hW.av k hk (unl_zero hu k)).2
  | fuel + 1, listed, vs, w1, s, y, hu, hW => by
    have hs := hW.size
    have hanc := ancs_spec hW.closed l [] [] rfl rfl (by intro k e h; simp [List.getD] at h)
    constructor
    · intro hr
      have hall : ∀ m k, k < m → k < l.length → listed.getD k true = true := by
        intro m
        induction m with
        | zero => intro k h; omega
        | succ m ih =>
          intro k hkm hkl
          by_cases hlt : k < m
          · exact ih k hlt hkl
          · obtain rfl : k = m := by omega
            cases hg : listed.getD k true with
            | true => rfl
            | false =>
              exfalso
              have hk' : l[k]? = some l[k] := List.getElem?_eq_getElem hkl
              have : k ∈ Region.ready .any l.toArray listed := mem_ready.2 ⟨hg, l[k], by simp, fun e he hbd => by
                have hlt := backB_spec hbk hk' e he hbd
                have := ih e.on (by omega) (by omega)
                rcases Nat.lt_or_ge e.on listed.size with h' | h'
                · simpa [h'] using this
                · omega⟩
              rw [hr] at this
              cases this
      have hse : s = eff.length := by
        rcases Nat.lt_or_ge s eff.length with h | h
        · have he := hlt eff[s] (List.getElem_mem h)
          have := (hW.at' s eff[s] (by simp [h])).1 (hall _ eff[s] (Nat.lt_succ_self _) he)
          omega
        · have := hW.le; omega
      subst hse
      exact hend vs w1 y hW.below hW.st fun k hk => (hW.av k hk (hall (k + 1) k (by omega) hk)).2
    · intro i hi
      obtain ⟨hun, o, ho, hafter⟩ := mem_ready.1 hi
      have ho' : l[i]? = some o := by simpa using ho
      have hil : i < l.length := (List.getElem?_eq_some_iff.1 ho').1
      have hdl : ∀ e ∈ o.after.toList, Region.binds .any e = true → listed.getD e.on true = true := by
        intro e he hbd
        have h1 := hafter e (by simpa using he) hbd
        have h2 := backB_spec hbk ho' e (by simpa using he) hbd
        rcases Nat.lt_or_ge e.on listed.size with h' | h'
        · simpa [h'] using h1
        · omega
      have hdep : DepG (GxI Is) vs w1 s y o.after.toList := DepG.of fun e he hbd => by
        have h2 := backB_spec hbk ho' e (by simpa using he) hbd
        exact (hW.av e.on (by omega) (hdl e he hbd)).2
      -- the set of those done, with this one, is closed: so all for whom this one waits are done
      have hwait : ∀ e, ((ancs l []).getD i 0).testBit e = true → e = i ∨ listed.getD e true = true := by
        have hc2 : Closed l (fun k => k = i ∨ listed.getD k true = true) := by
          intro k o2 hk hL e he hbd
          rcases hL with rfl | hL
          · rw [hk] at ho'
            injection ho' with ho'
            subst ho'
            exact .inr (hdl e he hbd)
          · exact .inr (hW.closed k o2 hk hL e he hbd)
        exact fun e he => ancs_spec hc2 l [] [] rfl rfl (by intro k e h; simp [List.getD] at h) i e he (.inl rfl)
      obtain ⟨hlo, hhi, hfx, hdp⟩ := stG_spec (Is := Is) (k := 0) (j := i) hstg (by omega)
      rw [Nat.zero_add] at hlo hhi hfx hdp
      have hHi : s ≤ (GxI Is i).hi := by
        unfold hiB at hhi
        split at hhi
        · rename_i e he
          refine Nat.le_of_not_lt fun hlt2 => ?_
          have hl := (hW.at' _ e he).2 hlt2
          rw [Bool.or_eq_true] at hhi
          rcases hhi with h | h
          · have := hanc e i h hl
            simp only [hun] at this
            cases this
          · have : e = i := by simpa using h
            rw [this, hun] at hl
            cases hl
        · rename_i he
          have := hW.le
          have h3 : eff.length ≤ (GxI Is i).hi := by simpa using he
          omega
      have hLo : (GxI Is i).lo ≤ s := by
        unfold loB at hlo
        split at hlo
        · omega
        · rename_i j hj
          split at hlo
          · rename_i e he
            rcases hwait e hlo with h | h
            · exact absurd (ancs_lt hbk l [] [] rfl rfl (by intro k e h; simp [List.getD] at h) i e hlo) (by omega)
            · have := (hW.at' j e he).1 h
              omega
          · cases hlo
      have hyet : Yet l a0 vs (0 + i) := by
        intro e o2 d h1 h2 h3
        rw [Nat.zero_add] at h3
        refine hW.init e o2 d h1 h2 ?_
        cases hle : listed.getD e true with
        | false => rfl
        | true =>
          have := hanc e i h3 hle
          simp only [hun] at this
          cases this
      have hstep := hask.at ho' vs w1 s y (by rw [Nat.zero_add]; exact hLo) (by rw [Nat.zero_add]; exact hHi) hW.below hW.st hdep hyet
      rw [Nat.zero_add] at hstep
      have hgs : ∀ k, (listed.setIfInBounds i true).getD k true = true ↔ (k = i ∨ listed.getD k true = true) := by
        intro k
        by_cases hki : k = i
        · subst hki
          rw [Array.getD_eq_getD_getElem?, Array.getElem?_setIfInBounds_self]
          simp only [true_or, iff_true]
          split <;> simp
        · rw [getD_set_ne _ (Ne.symm hki)]
          simp [hki]
      have hcl : Closed l (fun k => (listed.setIfInBounds i true).getD k true = true) := by
        intro k o2 hk hL e he hbd
        rw [hgs] at hL
        refine (hgs _).2 (.inr ?_)
        rcases hL with rfl | hL
        · rw [hk] at ho'
          injection ho' with ho'
          subst ho'
          exact hdl e he hbd
        · exact hW.closed k o2 hk hL e he hbd
      -- what is known of those that are done does not ask for the value of this one
      have hdi : ∀ v, ∀ e ∈ (GxI Is i).dep, vs e = upd vs i v e := by
        intro v e he
        unfold upd
        rw [if_neg]
        intro h
        subst h
        exact absurd (ancs_lt hbk l [] [] rfl rfl (by intro k e h; simp [List.getD] at h) _ _ (hdp _ he)) (by omega)
      have hdk : ∀ v k, k < l.length → listed.getD k true = true → ∀ e ∈ (GxI Is k).dep, vs e = upd vs i v e := by
        intro v k hk hl e he
        unfold upd
        rw [if_neg]
        intro h
        subst h
        obtain ⟨_, _, _, hdp'⟩ := stG_spec (Is := Is) (k := 0) (j := k) hstg (by omega)
        rw [Nat.zero_add] at hdp'
        have := hanc k e (hdp' e he) hl
        simp only [hun] at this
        cases this
      have hini : ∀ v k o2 d, l[k]? = some o2 → o2.dst = some d → (listed.setIfInBounds i true).getD k true = false → upd vs i v k = a0.tmps.getD d undef := by
        intro v k o2 d h1 h2 h3
        have hki : k ≠ i := by
          intro h
          have := (hgs k).2 (.inl h)
          rw [h3] at this
          cases this
        have hul : listed.getD k true = false := by
          cases hle : listed.getD k true with
          | false => rfl
          | true =>
            have := (hgs k).2 (.inr hle)
            rw [h3] at this
            cases this
        have e1 : upd vs i v k = vs k := by unfold upd; rw [if_neg hki]
        rw [e1]
        exact hW.init k o2 d h1 h2 hul
      have next : ∀ v w2, GivG St w1 (GxI Is i) s y vs v w2 → wpAny P .any l.toArray Q fuel (listed.setIfInBounds i true) ((T vs).put o.dst v) w2 := by
        intro v w2 hg
        unfold GivG at hg
        rw [← hT vs, fill_put v l a vs 0 i o ho' hd, hT, Nat.zero_add]
        have hu2 : unl (listed.setIfInBounds i true) = fuel := by have := unl_set listed i hun; omega
        cases hf : (GxI Is i).fx with
        | false =>
          rw [hf] at hg hfx
          obtain ⟨hv, hg⟩ : (GxI Is i).p y vs v w2 ∧ Below w1.heap.size w1 w2 := hg
          have hni : i ∉ eff := by
            intro hmem
            have : eff.contains i = true := by simpa using hmem
            rw [this] at hfx
            cases hfx
          refine wpAny_invG hB hRB hlen hT hd hbk hpairs hstg hlt hSt hask hend fuel _ _ w2 s y hu2 ⟨by simpa using hs, ?_, hSt _ _ _ _ hg hW.st, hW.le, ?_, hcl, hini v, ?_⟩
          · exact hW.below.trans (hg.mono (Nat.le_trans hB hW.below.size))
          · intro j e he
            rw [hgs, ← hW.at' j e he]
            have hne : e ≠ i := fun h => hni (h ▸ List.mem_of_getElem? he)
            simp [hne]
          · intro k hk hl
            by_cases hki : k = i
            · subst hki
              have e1 : upd vs k v k = v := by unfold upd; rw [if_pos rfl]
              rw [e1]
              exact ⟨by have := (GxI Is k).hborn; rw [hf] at this; exact Nat.le_trans this hLo, Gx.av_of ((GxI Is k).loc _ _ _ _ _ (hdi v) hv)⟩
            · have e1 : upd vs i v k = vs k := by unfold upd; rw [if_neg hki]
              rw [e1]
              rw [hgs] at hl
              have := hW.av k hk (hl.resolve_left hki)
              exact ⟨this.1, Gx.av_loc (hdk v k hk (hl.resolve_left hki)) (Gx.av_step hg this.2)⟩
        | true =>
          rw [hf] at hg hfx
          obtain ⟨y', hv, hgR, hs1⟩ : ∃ y', (GxI Is i).p y' vs v w2 ∧ R s y y' w1 w2 ∧ St (s + 1) y' w2 := hg
          have hg : Below B w1 w2 := hRB _ _ _ _ _ hgR
          have hmem : i ∈ eff := by simpa using hfx.symm
          obtain ⟨j, hj, hij⟩ := List.getElem_of_mem hmem
          have hj' : eff[j]? = some i := by rw [List.getElem?_eq_getElem hj, hij]
          have hjs : ¬ j < s := fun h => by
            have := (hW.at' j i hj').2 h
            rw [hun] at this
            cases this
          have hjs2 : j = s := by
            rcases Nat.lt_or_ge s j with h | h
            · exfalso
              have h1 : eff[s]? = some (eff[s]'(by omega)) := List.getElem?_eq_getElem (by omega)
              have h2 := pairsB_spec hpairs h h1 hj'
              have h3 := (hwait _ h2.1).resolve_left (by have := h2.2; omega)
              have := (hW.at' s _ h1).1 h3
              omega
            · omega
          subst hjs2
          refine wpAny_invG hB hRB hlen hT hd hbk hpairs hstg hlt hSt hask hend fuel _ _ w2 (j + 1) y' hu2 ⟨by simpa using hs, hW.below.trans hg, hs1, by omega, ?_, hcl, hini v, ?_⟩
          · intro j2 e he
            rw [hgs, hW.at' j2 e he]
            constructor
            · rintro (h | h)
              · rcases Nat.lt_trichotomy j2 j with h4 | h4 | h4
                · omega
                · omega
                · have := (pairsB_spec hpairs h4 hj' he).2
                  omega
              · omega
            · intro h
              rcases Nat.lt_or_ge j2 j with h4 | h4
              · exact .inr h4
              · left
                obtain rfl : j2 = j := by omega
                rw [hj'] at he
                injection he with he
                exact he.symm
          · intro k hk hl
            by_cases hki : k = i
            · subst hki
              have e1 : upd vs k v k = v := by unfold upd; rw [if_pos rfl]
              rw [e1]
              exact ⟨by have := (GxI Is k).hborn; rw [hf] at this; exact Nat.le_trans this (Nat.succ_le_succ hLo), Gx.av_of ((GxI Is k).loc _ _ _ _ _ (hdi v) hv)⟩
            · have e1 : upd vs i v k = vs k := by unfold upd; rw [if_neg hki]
              rw [e1]
              rw [hgs] at hl
              have := hW.av k hk (hl.resolve_left hki)
              exact ⟨by omega, Gx.av_loc (hdk v k hk (hl.resolve_left hki)) (Gx.av_next this.1 hgR this.2)⟩
      unfold wpOp
      simp only [ho]
      split
      · rename_i hw
        simp only [hw, if_true] at hstep
        refine .inl ?_
        unfold Oper.wp
        generalize (execOp (T vs).eval o).run P w1 = r at *
        cases r with
        | ok n w' =>
          cases n <;> simp only [givesUpon] at hstep <;> simp only [Oper.upon]
          case value v => exact next v w' hstep
          case skip => exact next _ w' hstep
          case enter f args => exact hstep.mono fun e w'' ⟨v, he, h1⟩ => by subst he; exact next v w'' h1
        | halt x w' => simp only [givesUpon] at hstep
      · rename_i hw
        rw [if_neg hw] at hstep
        exact next _ w1 hstep

def AllG (I : Nat → Gx R) (s : Nat) (y : Gh) (vs : Nat → Value) (w : World) : List Oper → Nat → Prop
  | [], _ => True
  | _ :: l, k => (I k).av s y vs (vs k) w ∧ AllG I s y vs w l (k + 1)
theorem AllG.of {I : Nat → Gx R} {s : Nat} {y : Gh} {vs : Nat → Value} {w : World} : ∀ (l : List Oper) (k : Nat), (∀ j, j < l.length → (I (k + j)).av s y vs (vs (k + j)) w) → AllG I s y vs w l k
  | [], _, _ => trivial
  | _ :: l, k, h => ⟨h 0 (by simp), AllG.of l (k + 1) fun j hj => by
      have := h (j + 1) (by simpa using hj)
      rw [show k + (j + 1) = k + 1 + j by omega] at this
      exact this⟩

/-- The same of a region. -/
theorem wp_region_invG {id : Nat} {a : Act} {w : World} {l : List Oper} (hm : P.follows .mixedOrders = true) (hB : B ≤ w.heap.size) (hRB : ∀ s y y' w w', R s y y' w w' → Below B w w') (Is : List (Gx R)) (eff : List Nat) (St : Nat → Gh → World → Prop) {T : (Nat → Value) → Act} (hok : okX l eff (Is.map Gx.sig) = true)
    (hSt : ∀ s y w w', Below w.heap.size w w' → St s y w → St s y w') (y0 : Gh) (h0 : St 0 y0 w) (hT : ∀ vs, fill a l vs 0 = T vs)
    (hask : AskG (B := B) P l a l.toArray (GxI Is) T w St l 0) (hend : ∀ vs w1 y, Below B w w1 → St eff.length y w1 → AllG (GxI Is) eff.length y vs w1 l 0 → Q .normal (T vs) w1) : (Code.region id l.toArray true).wp P Q a w := by
  refine wp_region_any hm ?_
  simp only [okX, Bool.and_eq_true, beq_iff_eq, List.length_map, List.all_eq_true, decide_eq_true_eq] at hok
  obtain ⟨⟨⟨⟨⟨hd, hbk⟩, hlen⟩, hp⟩, hs⟩, hlt⟩ := hok
  have hb0 : Below w.heap.size w { w with drawn := w.drawn + 1 } := (Below.refl _ _).drew
  obtain ⟨vs, hvs⟩ : ∃ vs : Nat → Value, ∀ j o d, l[j]? = some o → o.dst = some d → vs (0 + j) = a.tmps.getD d undef :=
    ⟨fun j => match (l[j]?).bind (·.dst) with | some d => a.tmps.getD d undef | none => undef, fun j o d h1 h2 => by simp [h1, h2]⟩
  have ha := fill_self vs l a 0 hvs
  rw [hT] at ha
  have key := wpAny_invG (Q := Q) (w0 := w) hB hRB hlen hT hd hbk hp hs hlt hSt hask (fun vs w1 y hb h1 h => hend vs w1 y hb h1 (AllG.of l 0 fun j hj => by rw [Nat.zero_add]; exact h j hj)) l.length (Array.replicate l.length false) vs _ 0 y0 (unl_rep _)
    ⟨by simp, hb0.mono hB, hSt _ _ _ _ hb0 h0, Nat.zero_le _, fun j e he => by
      have := hlt e (List.mem_of_getElem? he)
      simp [this], fun k o hk hl e _ _ => by
        have := (List.getElem?_eq_some_iff.1 hk).1
        simp [this] at hl, fun k o d h1 h2 _ => by have := hvs k o d h1 h2; rw [Nat.zero_add] at this; exact this, fun k hk hl => by simp [hk] at hl⟩
  rw [ha] at key
  simpa using key
end


/-- What an operation made is kept over these effects: known up to stage hi. -/
def Gx.till {R : Nat → Gh → Gh → World → World → Prop} (lo hi : Nat) (p : Gh → Value → World → Prop) (st : ∀ y v w w', Below w.heap.size w w' → p y v w → p y v w') (hk : ∀ s y y' v w w', lo ≤ s → s < hi → R s y y' w w' → p y v w → p y' v w') : Gx R :=
  ⟨lo, hi, false, lo, some hi, [], fun y _ => p y, fun _ _ _ _ _ _ h => h, fun y _ => st y, fun s _ _ _ _ _ _ h1 h2 hr h => hk s _ _ _ _ _ h1 (h2 hi rfl) hr h, Nat.le_add_right _ _⟩
theorem Gx.av_till {R : Nat → Gh → Gh → World → World → Prop} {s lo hi : Nat} {y : Gh} {f : Nat → Value} {p : Gh → Value → World → Prop} {st : ∀ y v w w', Below w.heap.size w w' → p y v w → p y v w'} {hk : ∀ s y y' v w w', lo ≤ s → s < hi → R s y y' w w' → p y v w → p y' v w'} {v : Value} {w : World} : (Gx.till (R := R) lo hi p st hk).av s y f v w = (s ≤ hi → p y v w) := rfl
/-- What an effect gives, with its ghost: at the stage behind it. -/
def Gx.fxG {R : Nat → Gh → Gh → World → World → Prop} (j : Nat) (p : Gh → Value → World → Prop) (st : ∀ y v w w', Below w.heap.size w w' → p y v w → p y v w') : Gx R := ⟨j, j, true, j + 1, some (j + 1), [], fun y _ => p y, fun _ _ _ _ _ _ h => h, fun y _ => st y, fun s _ _ _ _ _ _ h1 h2 _ _ => absurd (h2 (j + 1) rfl) (by omega), Nat.le_refl _⟩
theorem Gx.av_fxG {R : Nat → Gh → Gh → World → World → Prop} {s j : Nat} {y : Gh} {f : Nat → Value} {p : Gh → Value → World → Prop} {st : ∀ y v w w', Below w.heap.size w w' → p y v w → p y v w'} {v : Value} {w : World} : (Gx.fxG (R := R) j p st).av s y f v w = (s ≤ j + 1 → p y v w) := rfl
/-- The value of another operation, and a word on it that does not go by the world. -/
def Gx.same {R : Nat → Gh → Gh → World → World → Prop} (j k : Nat) (p : Value → Prop) : Gx R := ⟨j, j, false, 0, none, [k], fun _ f v _ => v = f k ∧ p v, fun _ f f' v w h h1 => by rw [← h k (List.mem_singleton.2 rfl)]; exact h1, fun _ _ _ _ _ _ h => h, fun _ _ _ _ _ _ _ _ _ _ h => h, Nat.zero_le _⟩
theorem Gx.av_same {R : Nat → Gh → Gh → World → World → Prop} {s j k : Nat} {y : Gh} {f : Nat → Value} {p : Value → Prop} {v : Value} {w : World} : (Gx.same (R := R) j k p).av s y f v w = (v = f k ∧ p v) := rfl
/-- The first part of another operation's value. -/
def Gx.fst {R : Nat → Gh → Gh → World → World → Prop} (j k : Nat) : Gx R := ⟨j, j, false, 0, none, [k], fun _ f v _ => ∃ u, f k = .tuple #[v, u], fun _ f f' v w h h1 => by rw [← h k (List.mem_singleton.2 rfl)]; exact h1, fun _ _ _ _ _ _ h => h, fun _ _ _ _ _ _ _ _ _ _ h => h, Nat.zero_le _⟩
theorem Gx.av_fst {R : Nat → Gh → Gh → World → World → Prop} {s j k : Nat} {y : Gh} {f : Nat → Value} {v : Value} {w : World} : (Gx.fst (R := R) j k).av s y f v w = (∃ u, f k = .tuple #[v, u]) := rfl
end Go.Proofs.Ytcgkoojegopfnaa
