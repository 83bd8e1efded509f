/- What a thing that is done leaves of a disk: plain facts. -/
import Derived.Test.YtcgkoojegopfnaaOps
namespace Go.Proofs.Ytcgkoojegopfnaa

/-- A disk as it can come to be: one that is down has nothing that is not synced. -/
def Dsk.inv (d : Dsk) : Prop := d.ok ∧ (d.down = true → d.syn = d.b.length)
def opWant (d : Dsk) (r : Nat) (e : Int) (x : List UInt8) : List UInt8 := if r = 0 ∧ e = 0 then d.b ++ x else d.b

theorem dNew_inv : dNew.inv := ⟨dNew_ok, fun h => by cases h⟩

theorem crash_keeps (d : Dsk) (h : d.ok) (k : Int) : d.syn ≤ (dCrash d k).b.length ∧ (dCrash d k).b.length ≤ d.b.length ∧ d.b.take (dCrash d k).b.length = (dCrash d k).b ∧ d.syn ≤ (dCrash d k).syn ∧ (dCrash d k).syn = (dCrash d k).b.length ∧ (dCrash d k).down = true := by
  have h1 := h.1
  have hs : dStay d k ≤ d.b.length - d.syn := Nat.min_le_right _ _
  have e : (dCrash d k).b.length = d.syn + dStay d k := by
    show (d.b.take (d.syn + dStay d k)).length = _
    rw [List.length_take]; omega
  refine ⟨by omega, by omega, by rw [e]; rfl, ?_, by rw [e]; rfl, rfl⟩
  show d.syn ≤ d.syn + dStay d k
  omega

theorem opDo_keeps (d : Dsk) (r : Nat) (n : Int) (x : List UInt8) (h : d.inv) (hr : r ≠ 5) (d' : Dsk) (e : Int) (hd : opDo d r n x = (d', e)) :
    d'.inv ∧ d.syn ≤ d'.b.length ∧ d'.b.length ≤ (opWant d r e x).length ∧ (opWant d r e x).take d'.b.length = d'.b ∧ d.syn ≤ d'.syn ∧ d'.syn ≤ d'.b.length ∧ (d'.down = false → d'.b.length = (opWant d r e x).length) ∧ (d'.down = true → d'.syn = d'.b.length) := by
  obtain ⟨hok, hdn⟩ := h
  have h1 := hok.1
  have same : ∀ d' : Dsk, d'.b = d.b → d'.syn = d.syn → d'.down = d.down → ¬ (r = 0 ∧ e = 0) → d'.inv ∧ d.syn ≤ d'.b.length ∧ d'.b.length ≤ (opWant d r e x).length ∧ (opWant d r e x).take d'.b.length = d'.b ∧ d.syn ≤ d'.syn ∧ d'.syn ≤ d'.b.length ∧ (d'.down = false → d'.b.length = (opWant d r e x).length) ∧ (d'.down = true → d'.syn = d'.b.length) := by
    intro d' e1 e2 e3 hne
    have ew : opWant d r e x = d.b := by unfold opWant; rw [if_neg hne]
    rw [ew]
    have h2 := hok.2
    refine ⟨⟨⟨by rw [e1, e2]; exact h1, by rw [e1]; exact h2⟩, by rw [e1, e2, e3]; exact hdn⟩, by rw [e1]; exact h1, by rw [e1]; exact Nat.le_refl _, by rw [e1, List.take_length], by rw [e2]; exact Nat.le_refl _, by rw [e1, e2]; exact h1, fun _ => by rw [e1], by rw [e1, e2, e3]; exact hdn⟩
  match r, hr, hd, same with
  | 0, _, hd, same =>
    have hd : dAppend d x = (d', e) := hd
    unfold dAppend at hd
    split at hd
    · injection hd with a b
      subst a b
      exact same _ rfl rfl rfl (by decide)
    · rename_i hnd
      split at hd
      · injection hd with a b
        subst a b
        exact same _ rfl rfl rfl (by decide)
      · rename_i hfit
        injection hd with a b
        subst a b
        have ew : opWant d 0 0 x = d.b ++ x := rfl
        rw [ew]
        have hl : (d.b ++ x).length = d.b.length + x.length := List.length_append
        refine ⟨⟨⟨?_, ?_⟩, fun h => absurd h hnd⟩, ?_, Nat.le_refl _, List.take_length, Nat.le_refl _, ?_, fun _ => rfl, fun h => absurd h hnd⟩
        · show d.syn ≤ (d.b ++ x).length; omega
        · show (d.b ++ x).length ≤ 65536; omega
        · show d.syn ≤ (d.b ++ x).length; omega
        · show d.syn ≤ (d.b ++ x).length; omega
  | 1, _, hd, same =>
    have hd : dSync d = (d', e) := hd
    unfold dSync at hd
    split at hd
    · injection hd with a b
      subst a b
      exact same _ rfl rfl rfl (by simp)
    · split at hd
      · injection hd with a b
        subst a b
        obtain ⟨k1, k2, k3, k4, k5, k6⟩ := crash_keeps d hok d.keep
        have ew : opWant d 1 30 x = d.b := rfl
        rw [ew]
        exact ⟨⟨hok.crash _, fun _ => k5⟩, k1, k2, k3, k4, Nat.le_of_eq k5, (fun h => by rw [k6] at h; cases h), fun _ => k5⟩
      · injection hd with a b
        subst a b
        have ew : opWant d 1 0 x = d.b := rfl
        rw [ew]
        exact ⟨⟨⟨Nat.le_refl _, hok.2⟩, fun _ => rfl⟩, h1, Nat.le_refl _, List.take_length, h1, Nat.le_refl _, fun _ => rfl, fun _ => rfl⟩
  | 2, _, hd, same =>
    have hd : (dDoom d n, (0 : Int)) = (d', e) := hd
    injection hd with a b
    subst a b
    exact same _ rfl rfl rfl (by simp)
  | 3, _, hd, same =>
    have hd : (dCrash d n, (0 : Int)) = (d', e) := hd
    injection hd with a b
    subst a b
    obtain ⟨k1, k2, k3, k4, k5, k6⟩ := crash_keeps d hok n
    have ew : opWant d 3 0 x = d.b := rfl
    rw [ew]
    exact ⟨⟨hok.crash _, fun _ => k5⟩, k1, k2, k3, k4, Nat.le_of_eq k5, (fun h => by rw [k6] at h; cases h), fun _ => k5⟩
  | 4, _, hd, same =>
    have hd : dUp d = (d', e) := hd
    unfold dUp at hd
    split at hd
    · rename_i hu
      injection hd with a b
      subst a b
      have ew : opWant d 4 0 x = d.b := rfl
      rw [ew]
      have := hdn hu
      exact ⟨⟨⟨h1, hok.2⟩, fun h => by cases h⟩, h1, Nat.le_refl _, List.take_length, Nat.le_refl _, h1, fun _ => rfl, fun h => by cases h⟩
    · injection hd with a b
      subst a b
      exact same _ rfl rfl rfl (by simp)
  | r + 6, _, hd, same =>
    have hd : (d, (0 : Int)) = (d', e) := hd
    injection hd with a b
    subst a b
    exact same _ rfl rfl rfl (by simp)
end Go.Proofs.Ytcgkoojegopfnaa
