/- 'string(b)' of a slice of bytes, and '==' on such strings. -/
import Derived.Test.YtcgkoojegopfnaaBytes
import Derived.Laws.IdiomStrings
namespace Go.Proofs.Ytcgkoojegopfnaa
open Go.RowKit

/-- The string of bytes l. -/
def strOf (l : List UInt8) : ByteArray := ⟨l.toArray⟩

theorem toList_loop (bs : ByteArray) (k : Nat) : ∀ (i : Nat) (r : List UInt8), bs.size - i = k → ByteArray.toList.loop bs i r = r.reverse ++ bs.data.toList.drop i := by
  induction k with
  | zero =>
    intro i r h
    unfold ByteArray.toList.loop
    have hsz : bs.data.toList.length = bs.size := rfl
    rw [if_neg (by omega), List.drop_of_length_le (by omega), List.append_nil]
  | succ k ih =>
    intro i r h
    have hsz : bs.data.toList.length = bs.size := rfl
    unfold ByteArray.toList.loop
    rw [if_pos (by omega), ih (i + 1) _ (by omega), List.reverse_cons, List.append_assoc]
    congr 1
    have hi : i < bs.data.toList.length := by omega
    rw [List.drop_eq_getElem_cons hi]
    show [bs.get! i] ++ _ = _
    rw [List.singleton_append]
    congr 1
    simp [ByteArray.get!, hsz ▸ hi]

theorem strOf_toList (l : List UInt8) : (strOf l).toList = l := by
  unfold strOf ByteArray.toList
  rw [toList_loop _ _ 0 [] rfl]
  simp

theorem str_eq (a b : List UInt8) : ((strOf a).toList == (strOf b).toList) = (a == b) := by rw [strOf_toList, strOf_toList]

theorem run_string_of {P : Program} (src dst e : TypeId) (hs : P.underlying src = some (.slice e)) (he : P.underlying e = some (.int .u8)) (hd : P.underlying dst = some .string)
    {w : World} {B n c : Nat} {A : Option Addr} {l : List UInt8} (hn : l.length = n) (hA : Bs w B A l) : (convert src dst (.slice A n c)).run P w = .ok (.string (strOf l)) w := by
  subst hn
  rcases Nat.eq_zero_or_pos l.length with h0 | h0
  · obtain rfl := List.eq_nil_of_length_eq_zero h0
    cases A with
    | none =>
      rw [run_convert_bytes_string w src dst e _ _ _ hs he hd]
      rfl
    | some a => exact run_convert_bytes_back w src dst e a c [] hs he hd (fun j hj => absurd hj (by simp))
  · obtain ⟨b, off, rfl, _, hc⟩ := hA h0
    refine run_convert_bytes_back w src dst e ⟨b, off, none⟩ c l hs he hd (fun j hj => ?_)
    rw [Addr.add_lit, hc j hj]
    simp [List.getD, hj]
end Go.Proofs.Ytcgkoojegopfnaa
