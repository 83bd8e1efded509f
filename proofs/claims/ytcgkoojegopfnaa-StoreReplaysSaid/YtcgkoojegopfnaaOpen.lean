/- How an argument that is a slice of bytes is opened. -/
import Derived.Test.YtcgkoojegopfnaaBytes
import Derived.ProofKit
import Derived.OpenShut
import Derived.ChangeOld
namespace Go.Proofs.Ytcgkoojegopfnaa
open Go.ChangeShapes Go.WideShapes Go.ChangeAt Go.RowKit

theorem u8_back {n : Int} (h : (Lit.int .u8 n).wf = true) : ((UInt8.ofNat n.toNat).toNat : Int) = n := by
  have hb := bounds_u8 h
  rw [UInt8.toNat_ofNat']
  omega

theorem open_bs {H : Type} {enc : TypeId × Value → H} {P : Program} {t e : TypeId} (ht : P.underlying t = some (.slice e)) (he : P.underlying e = some (.int .u8)) (hc : P.cellsOf e = 1)
    {W : World} {a : Option Addr} {len cap : Nat} {d : DataW H} {ps : List MemPlace} {sp : Nat → Bool} {hd : Bool} (h : DataW.Trod enc P W 0 sp hd t (.slice a len cap) d ps) :
    ∃ l : List UInt8, l.length = len ∧ len ≤ cap ∧ cap ≤ maxLen ∧ Bs W W.heap.size a l := by
  obtain ⟨fuel, hf⟩ := h
  rcases open_ints ht he hc hf with ⟨hcs, _⟩ | ⟨x, l, c, zs, hcs, _, hl, hm, hz, _, hcell, hwz⟩
  · simp [Value.cells] at hcs
    obtain ⟨rfl, rfl, rfl⟩ := hcs
    exact ⟨[], rfl, Nat.le_refl _, Nat.zero_le _, Bs.nil⟩
  · simp [Value.cells] at hcs
    obtain ⟨rfl, rfl, rfl⟩ := hcs
    have hlz : len ≤ zs.length := by rw [hz]; split <;> omega
    refine ⟨(zs.take len).map (fun n => UInt8.ofNat n.toNat), by simp; omega, hl, hm, fun hpos => ?_⟩
    have hpos' : 0 < len := by simp at hpos; omega
    have hc0 := hcell 0 (by omega)
    obtain ⟨b, off, spot⟩ := x
    have hspot : spot = none := by simpa [Addr.add] using World.cell?_spot hc0
    subst hspot
    refine ⟨b, off, rfl, ?_, fun i hi => ?_⟩
    · have := World.block_lt_of_cell? W _ hc0
      simpa [Addr.add] using this
    · have hi' : i < len := by simp at hi; omega
      have hci := hcell i (by omega)
      rw [Addr.add_lit] at hci
      rw [hci]
      have hw : (Lit.int .u8 zs[i]).wf = true := hwz _ (List.getElem_mem (by omega))
      have hb := u8_back hw
      simp [hi', show i < zs.length by omega] at hb ⊢
      exact hb.symm

end Go.Proofs.Ytcgkoojegopfnaa
