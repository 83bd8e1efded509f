/- How an argument that is a slice of slices of bytes is opened. -/
import Derived.Test.YtcgkoojegopfnaaOpen
import Derived.Test.YtcgkoojegopfnaaRecs
import Derived.Deep.Slices
namespace Go.Proofs.Ytcgkoojegopfnaa
open Go.ChangeShapes Go.WideShapes Go.ChangeAt Go.RowKit Go.Deep

theorem open_bs0 {H : Type} {enc : TypeId × Value → H} {P : Program} {t e : TypeId} (ht : P.underlying t = some (.slice e)) (he : P.underlying e = some (.int .u8)) (hc : P.cellsOf e = 1)
    {W : World} {sp : Nat → Bool} {hd : Bool} {fuel : Nat} {v : Value} {x : DataW H × List MemPlace} (h : DataW.trod enc P W 0 sp hd fuel t [v] = some x) :
    ∃ l : List UInt8, ∃ a cap, v = .slice a l.length cap ∧ l.length ≤ cap ∧ cap ≤ maxLen ∧ Bs W W.heap.size a l := by
  rcases open_ints ht he hc h with ⟨hcs, _⟩ | ⟨y, len, c, zs, hcs, _⟩
  · injection hcs with hcs
    subst hcs
    exact ⟨[], none, 0, rfl, Nat.le_refl _, Nat.zero_le _, Bs.nil⟩
  · injection hcs with hcs
    subst hcs
    have h2 : DataW.Trod enc P W 0 sp hd t (.slice (some y) len c) x.1 x.2 := ⟨fuel, by simpa [Value.cells] using h⟩
    obtain ⟨l, hl, hlc, hm, hb⟩ := open_bs ht he hc h2
    subst hl
    exact ⟨l, some y, c, rfl, hlc, hm, hb⟩

theorem open_bss {H : Type} {enc : TypeId × Value → H} {P : Program} {t r e : TypeId} (ht : P.underlying t = some (.slice r)) (hr : P.underlying r = some (.slice e)) (he : P.underlying e = some (.int .u8)) (hcr : P.cellsOf r = 1) (hc : P.cellsOf e = 1)
    {W : World} {a : Option Addr} {len cap : Nat} {d : DataW H} {ps : List MemPlace} {sp : Nat → Bool} {hd : Bool} (h : DataW.Trod enc P W 0 sp hd t (.slice a len cap) d ps) :
    ∃ L : List (List UInt8), L.length = len ∧ len ≤ cap ∧ cap ≤ maxLen ∧ Rr W W.heap.size a L := by
  obtain ⟨fuel, hf⟩ := h
  rcases open_slice1 ht hcr hf with ⟨hcs, _⟩ | ⟨x, l, c, m, n, V, D, Pl, hcs, _, hl, hm, hmm, _, hi⟩
  · simp [Value.cells] at hcs
    obtain ⟨rfl, rfl, rfl⟩ := hcs
    exact ⟨[], rfl, Nat.le_refl _, Nat.zero_le _, Rr.nil⟩
  · simp [Value.cells] at hcs
    obtain ⟨rfl, rfl, rfl⟩ := hcs
    have hlm : len ≤ m := by rw [hmm]; split <;> omega
    obtain ⟨F, hF⟩ := choose_lt (α := List UInt8) (n := len) (p := fun i l => ∃ a cap, V i = .slice a l.length cap ∧ l.length ≤ cap ∧ cap ≤ maxLen ∧ Bs W W.heap.size a l) (fun i hlt => open_bs0 hr he hc (hi i (by omega)).2)
    refine ⟨(List.range len).map F, by simp, hl, hm, fun hpos => ?_⟩
    have hpos' : 0 < len := by simpa using hpos
    have hc0 := (hi 0 (by omega)).1
    obtain ⟨b, off, spot⟩ := x
    have hspot : spot = none := by simpa [Addr.add] using World.cell?_spot hc0
    subst hspot
    refine ⟨b, off, rfl, ?_, fun i hlt => ?_⟩
    · have := World.block_lt_of_cell? W _ hc0
      simpa [Addr.add] using this
    · have hlt' : i < len := by simpa using hlt
      obtain ⟨Ai, ci, h1, h2, h3, h4⟩ := hF i hlt'
      have hci := (hi i (by omega)).1
      rw [Addr.add_lit, h1] at hci
      have e1 : ((List.range len).map F).getD i [] = F i := by simp [hlt']
      rw [e1]
      exact ⟨Ai, ci, hci, h2, h3, h4⟩

end Go.Proofs.Ytcgkoojegopfnaa
