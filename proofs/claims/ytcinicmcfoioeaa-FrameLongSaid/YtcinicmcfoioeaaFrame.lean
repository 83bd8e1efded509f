/- Frames, as plain functions. -/
import Derived.Test.YtcinicmcfoioeaaAdler
namespace Go.Proofs.Ytcinicmcfoioeaa

def byteOf (n : Nat) : UInt8 := UInt8.ofNat n
def be2 (n : Nat) : List UInt8 := [byteOf (n / 256), byteOf n]
def be4 (n : Nat) : List UInt8 := [byteOf (n / 16777216), byteOf (n / 65536), byteOf (n / 256), byteOf n]
def fbody (x : List UInt8) : List UInt8 := be2 x.length ++ x
def fput (x : List UInt8) : List UInt8 := fbody x ++ be4 (adler 1 (fbody x)).toNat

theorem byteOf_toNat (n : Nat) : (byteOf n).toNat = n % 256 := by unfold byteOf; rw [UInt8.toNat_ofNat']
theorem be2_length (n : Nat) : (be2 n).length = 2 := rfl
theorem be4_length (n : Nat) : (be4 n).length = 4 := rfl
theorem fbody_length (x : List UInt8) : (fbody x).length = x.length + 2 := by unfold fbody; rw [List.length_append, be2_length]; omega
theorem fput_length (x : List UInt8) : (fput x).length = x.length + 6 := by unfold fput; rw [List.length_append, fbody_length, be4_length]

def hd2 (b : List UInt8) : Nat := 256 * (b.getD 0 0).toNat + (b.getD 1 0).toNat
def beVal (l : List UInt8) : Nat := l.foldl (fun s b => s * 256 + b.toNat) 0
theorem beVal_snoc (l : List UInt8) (b : UInt8) : beVal (l ++ [b]) = beVal l * 256 + b.toNat := by unfold beVal; rw [List.foldl_append]; rfl
theorem beVal_lt (l : List UInt8) : ∀ s k : Nat, s < 256 ^ k → l.foldl (fun s b => s * 256 + b.toNat) s < 256 ^ (k + l.length) := by
  induction l with
  | nil => intro s k h; exact h
  | cons b l ih =>
    intro s k h
    have hb := b.toNat_lt
    have h2 := ih (s * 256 + b.toNat) (k + 1) (by rw [Nat.pow_succ]; omega)
    rw [List.length_cons, show k + (l.length + 1) = k + 1 + l.length by omega]
    exact h2
theorem beVal_bd (l : List UInt8) : beVal l < 256 ^ l.length := by
  have h := beVal_lt l 0 0 (by decide)
  rwa [Nat.zero_add] at h

/-- What is taken: the record, how many bytes its frame has, and the error's number. -/
def ftake (b : List UInt8) : List UInt8 × Nat × Nat :=
  if b.length < 2 then ([], 0, 2)
  else if hd2 b = 0 ∨ 4096 < hd2 b then ([], 0, 3)
  else if b.length < hd2 b + 6 then ([], 0, 2)
  else if adler 1 (b.take (hd2 b + 2)) = (beVal ((b.drop (hd2 b + 2)).take 4) : Nat) then ((b.drop 2).take (hd2 b), hd2 b + 6, 0)
  else ([], 0, 3)

end Go.Proofs.Ytcinicmcfoioeaa
