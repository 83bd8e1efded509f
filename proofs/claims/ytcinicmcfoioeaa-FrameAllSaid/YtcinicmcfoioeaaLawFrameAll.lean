/- The walk of the law FrameAll. -/
import Derived.Test.YtcinicmcfoioeaaFrameP
import Derived.Test.YtcinicmcfoioeaaFrameS
namespace Go.Proofs.Ytcinicmcfoioeaa
open Go.RowKit

set_option maxHeartbeats 800000 in
theorem frameAll_walk (w : World) (A : Option Addr) (l : List UInt8) (n cap : Nat) (hn : l.length = n) (hcap : n ≤ cap) (hm : cap ≤ maxLen) (hA : Bs w w.heap.size A l)
    (A2 : Option Addr) (l2 : List UInt8) (n2 cap2 : Nat) (hn2 : l2.length = n2) (hcap2 : n2 ≤ cap2) (hm2 : cap2 ≤ maxLen) (hA2 : Bs w w.heap.size A2 l2) :
    Calls Try.prog 9 #[.slice A n cap, .slice A2 n2 cap2] w fun e w' => e = .returned (.bool true) ∧ Below w.heap.size w w' := by
  have hM2 := Lib.hid hm2
  unfold maxLen at hm hm2
  have HN := Lib.hid hn
  have HN2 := Lib.hid hn2
  have hT := hA.take 9000
  have hT2 := hA2.take 9000
  have hl : (l.take 9000).length ≤ 9000 := by simp; omega
  have hl2 : (l2.take 9000).length ≤ 9000 ∧ (l2.take 9000).length ≤ cap2 := by simp; omega
  obtain ⟨hl2, hl3⟩ := hl2
  clear hn hn2
  generalize hl' : l.take 9000 = t at *
  generalize hl2' : l2.take 9000 = t2 at *
  go_enter Try.func9, Try.ntmps9
  go_wp2_with fail
  refine (shown13_any _).mono ?_
  rintro e w1 ⟨rfl, b1⟩
  go_wp2_with fail
  refine (short13_any A l n cap _ HN.out hcap hm).mono ?_
  rintro e w2 ⟨rfl, rfl⟩
  rw [hl']
  go_wp2_with fail
  refine (short13_any A2 l2 n2 cap2 _ HN2.out hcap2 hm2).mono ?_
  rintro e w2 ⟨rfl, rfl⟩
  rw [hl2']
  have s1 := hT.step b1
  have r1 := hT2.step b1
  clear hl' hl2'
  go_wp2_with fail
  refine (put_any A t _ cap _ rfl (by omega) s1).mono ?_
  rintro e w2 ⟨P1, p1, rfl, o2, b2⟩
  have c2 := chain b1 b2
  have P2 := o2.bs
  have s2 := s1.step b2
  have r2 := r1.step b2
  clear o2 s1 r1
  go_wp2_with fail
  refine (rput_any A t _ cap _ rfl (by omega) s2).mono ?_
  rintro e w3 ⟨Q1, q1, rfl, o3, b3⟩
  have c3 := chain c2 b3
  have P3 := P2.step b3
  have Q3 := o3.bs
  have r3 := r2.step b3
  clear o3 s2 r2 P2 b2
  have e3 := (Below.refl w3.heap.size w3).alloc (Nat.le_refl _) (.cells #[] 5)
  have h3 := Ob.empty (w := w3) (base := w3.heap.size) (E := 5) (Nat.le_refl _)
  have r3' := r3.below e3
  go_wp2_with (at_builtin; refine app rfl (.tmp 37) (.tmp 38) rfl rfl h3 rfl rfl r3' (by omega) e3.size ?_; intro C1 k1 w4 o4 g4 _; simp only [Nat.zero_add, List.nil_append] at o4; have b4 : Below w3.heap.size w3 w4 := Own.grown h3 e3 g4)
  have o4c := o4.cap
  refine (take_any C1 t2 _ k1 _ rfl o4c.1 (by omega) o4.bs).mono ?_
  rintro e w5 ⟨U1, u1, rfl, o5, b5⟩
  have c5 := chain (chain c3 b4) b5
  have P5 := (P3.step b4).step b5
  have Q5 := (Q3.step b4).step b5
  have U5 := o5.bs
  have r5 := (r3.step b4).step b5
  clear o4 o4c g4 b4 r3' h3 e3 P3 Q3 r3 b3 o5
  go_wp2_with fail
  refine (rtake_any A2 t2 _ cap2 _ rfl hl3 (by omega) r5).mono ?_
  rintro e w6 ⟨V1, v1, rfl, o6, b6⟩
  have c6 := chain c5 b6
  have P6 := P5.step b6
  have Q6 := Q5.step b6
  have U6 := U5.step b6
  have V6 := o6.bs
  have r6 := r5.step b6
  clear o6 P5 Q5 U5 r5 b5
  have e6 := (Below.refl w6.heap.size w6).alloc (Nat.le_refl _) (.cells #[] 5)
  have h6 := Ob.empty (w := w6) (base := w6.heap.size) (E := 5) (Nat.le_refl _)
  have r6' := r6.below e6
  go_wp2_with (at_builtin; refine app rfl (.tmp 51) (.tmp 52) rfl rfl h6 rfl rfl r6' (by omega) e6.size ?_; intro C2 k2 w7 o7 g7 _; simp only [Nat.zero_add, List.nil_append] at o7; have b7 : Below w6.heap.size w6 w7 := Own.grown h6 e6 g7)
  have o7c := o7.cap
  refine (all_any C2 t2 _ k2 _ rfl o7c.1 o7c.2 (by omega) o7.bs).mono ?_
  rintro e w8 ⟨L1, y1, rfl, o8, b8⟩
  have c8 := chain (chain c6 b7) b8
  have P8 := (P6.step b7).step b8
  have Q8 := (Q6.step b7).step b8
  have U8 := (U6.step b7).step b8
  have V8 := (V6.step b7).step b8
  have r8 := (r6.step b7).step b8
  have L8 := o8.rr
  clear o7 o7c g7 b7 r6' h6 e6 P6 Q6 U6 V6 r6 b6 o8
  go_wp2_with fail
  refine (rall_any A2 t2 _ cap2 _ rfl hl3 hM2.out (by omega) r8).mono ?_
  rintro e w9 ⟨K1, z1, rfl, o9, b9⟩
  have c9 := chain c8 b9
  have P9 := P8.step b9
  have Q9 := Q8.step b9
  have U9 := U8.step b9
  have V9 := V8.step b9
  have L9 := L8.step b9
  have K9 := o9.rr
  have hfb := fall_bd _ t2 (Nat.le_refl _)
  clear o9 P8 Q8 U8 V8 L8 r8 b8
  go_wp2_with fail
  refine (same_any L1 K1 (fall t2).1 (fall t2).1 _ _ _ _ _ rfl rfl (by omega) (by omega) L9 K9).mono ?_
  rintro e w10 ⟨rfl, b10⟩
  have c10 := chain c9 b10
  rw [beq_self_eq_true]
  have hp := conv (c := p1) rfl (P9.step b10)
  have hq := conv (c := q1) rfl (Q9.step b10)
  have hu := conv (c := u1) rfl (U9.step b10)
  have hv := conv (c := v1) rfl (V9.step b10)
  clear P9 Q9 U9 V9 L9 K9 b9 b10 hfb
  go_wp2
  go_ret
  exact ⟨rfl, c10⟩
end Go.Proofs.Ytcinicmcfoioeaa
