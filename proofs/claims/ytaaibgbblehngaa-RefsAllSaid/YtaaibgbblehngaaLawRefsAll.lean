/- The walk of the law RefsAll. -/
import Derived.Test.YtaaibgbblehngaaRefL
namespace Go.Proofs.Ytaaibgbblehngaa
open Go.RowKit

set_option maxRecDepth 100000 in
set_option maxHeartbeats 3200000 in
theorem refsAll_walk (w : World) (A : Option Addr) (l : List Snp) (n cap : Nat) (hn : l.length = n) (hcap : n ≤ cap) (hm : cap ≤ maxLen) (hA : Sn w w.heap.size A l) (id : Int) (_ : -9223372036854775808 ≤ id ∧ id ≤ 9223372036854775807)
    (Ac : Option Addr) (lc : List Int) (nc capc : Nat) (hnc : lc.length = nc) (hcapc : nc ≤ capc) (hmc : capc ≤ maxLen) (hAc : Is w w.heap.size Ac lc) :
    Calls Try.prog 10 #[.slice A n cap, .int .i64 id, .slice Ac nc capc] w fun e w' => e = .returned (.bool true) ∧ Below w.heap.size w w' := by
  have hmc0 := hmc
  unfold maxLen at hm hmc
  have HN := Lib.hid hn
  have HNC := Lib.hid hnc
  clear hn hnc
  obtain ⟨hfew, hle⟩ := fw_few l
  go_enter Try.func10, Try.ntmps10
  go_wp2_with fail
  refine (shown06_any _).mono ?_
  rintro e w1 ⟨rfl, b1⟩
  have a1 := hA.step b1
  have c1 := hAc.step b1
  clear hA hAc
  go_wp2_with fail
  refine (few_any A l n cap _ HN.out (by omega) a1).mono ?_
  rintro e w2 ⟨O, m, oc, rfl, o2, f2⟩
  have b2 := chain b1 f2
  have s2 := o2.sn
  have c2 := c1.step f2
  have HM := Lib.hid o2.1
  have hm20 : m ≤ 20 := by have := HM.out; have := hle.1; omega
  clear a1 c1 f2 b1 o2
  go_wp2_with fail
  refine (short06_any Ac lc nc capc _ HNC.out hcapc hmc).mono ?_
  rintro e w3 ⟨rfl, rfl⟩
  have t2 : Is w2 w2.heap.size Ac (lc.take 12) := by rw [Is, List.map_take]; exact c2.take 12
  have ht12 : (lc.take 12).length ≤ 12 := by rw [List.length_take]; omega
  have htc : (lc.take 12).length ≤ capc := by have := HNC.out; rw [List.length_take]; omega
  generalize lc.take 12 = t at *
  generalize fw l = M at *
  have HF := Lib.hid hfew
  have HFA := Lib.hid (show Few (M ++ [⟨0, 0, t, false, ⟨#[]⟩⟩]) from ⟨by rw [List.length_append]; have := hle.1; simp; omega, fun x hx => by
    rcases List.mem_append.1 hx with h | h
    · have := hle.2 x h; omega
    · simp at h; subst h; simp only; omega⟩)
  clear hfew c2 hle
  obtain ⟨tn, htn⟩ : ∃ tn, t.length = tn := ⟨_, rfl⟩
  have HTN := Lib.hid htn
  rw [htn] at ht12 htc ⊢
  clear htn
  go_wp2_with fail
  refine (counts_any O M m oc _ HM.out HF s2).mono ?_
  rintro e w3 ⟨XA, xn, xc, rfl, xl, xcc, xcm, xi, f3⟩
  have b3 := chain b2 f3
  have s3 := s2.step f3
  have t3 := t2.step f3
  have XL := Lib.hid xl
  clear s2 t2 f3 b2 xl
  go_wp2_with fail
  refine (rcounts_any O M m oc _ HM.out HF s3).mono ?_
  rintro e w4 ⟨YA, yn, yc, rfl, yo, f4⟩
  have b4 := chain b3 f4
  have s4 := s3.step f4
  have t4 := t3.step f4
  have x4 := xi.step f4
  have y4 : Is w4 w4.heap.size YA (cnts M) := yo.rd
  have hyx : yn = xn := by have := IsRow.len yo; have := XL.out; omega
  subst hyx
  clear s3 t3 f4 b3 xi yo
  go_wp2_with fail
  refine (ints_any XA YA (cnts M) yn xc yc _ XL.out xcc xcm x4 y4).mono ?_
  rintro e w5 ⟨rfl, f5⟩
  have b5 := chain b4 f5
  have s5 := s4.step f5
  have t5 := t4.step f5
  clear s4 t4 f5 b4 x4 y4 XL xcc xcm
  go_wp2_with fail
  refine (freed_any O M m oc id _ HM.out HF s5).mono ?_
  rintro e w6 ⟨FA, fn, fc, rfl, fo, f6⟩
  have b6 := chain b5 f6
  have s6 := s5.step f6
  have t6 := t5.step f6
  have x6 : Is w6 w6.heap.size FA (frd M id) := fo.rd
  have FL := Lib.hid (IsRow.len fo)
  have fcap := fo.cap
  clear s5 t5 f6 b5 fo
  go_wp2_with fail
  refine (rfreed_any O M m oc id _ HM.out HF s6).mono ?_
  rintro e w7 ⟨GA, gn, gc, rfl, go7, f7⟩
  have b7 := chain b6 f7
  have s7 := s6.step f7
  have t7 := t6.step f7
  have x7 := x6.step f7
  have y7 : Is w7 w7.heap.size GA (frd M id) := go7.rd
  have hgx : gn = fn := by have := IsRow.len go7; have := FL.out; omega
  subst hgx
  clear s6 t6 f7 b6 x6 go7
  go_wp2_with fail
  refine (ints_any FA GA (frd M id) gn fc gc _ FL.out fcap.1 fcap.2 x7 y7).mono ?_
  rintro e w8 ⟨rfl, f8⟩
  have b8 := chain b7 f8
  have s8 := s7.step f8
  have t8 := t7.step f8
  clear s7 t7 f8 b7 x7 y7 FL fcap
  go_wp2_with fail
  refine (without_any O M m oc id _ HM.out HF s8).mono ?_
  rintro e w9 ⟨RA, rn, rc, rfl, ro, f9⟩
  have b9 := chain b8 f9
  have s9 := s8.step f9
  have t9 := t8.step f9
  have x9 := ro.sn
  have RL := Lib.hid ro.1
  have hrn : rn ≤ 1000 := by have := RL.out; have := HM.out; have := wo_le M id; omega
  clear s8 t8 f9 b8 ro
  go_wp2_with fail
  refine (rwithout_any O M m oc id _ HM.out HF s9).mono ?_
  rintro e w10 ⟨SA, sn, sc, rfl, so, f10⟩
  have b10 := chain b9 f10
  have s10 := s9.step f10
  have t10 := t9.step f10
  have x10 := x9.step f10
  have y10 := so.sn
  have hsn : sn = rn := by have := so.1; have := RL.out; omega
  subst hsn
  clear s9 t9 f10 b9 x9 so
  go_wp2_with fail
  refine (sameAll_any RA SA (wo M id) sn rc sc _ RL.out hrn x10 y10).mono ?_
  rintro e w11 ⟨rfl, f11⟩
  have b11 := chain b10 f11
  have s11 := s10.step f11
  have t11 := t10.step f11
  clear s10 t10 f11 b10 x10 y10 RL hrn
  go_wp2_with fail
  refine (distinct_any O M m oc _ HM.out HF s11).mono ?_
  rintro e w12 ⟨rfl, f12⟩
  have b12 := chain b11 f12
  have s12 := s11.step f12
  have t12 := t11.step f12
  clear s11 t11 f12 b11
  go_wp2_with fail
  refine (rdistinct_any O M m oc _ HM.out HF s12).mono ?_
  rintro e w13 ⟨rfl, rfl⟩
  generalize dst M = D at *
  go_wp2_with fail
  refine (with_any O M m oc Ac t tn capc _ HM.out HF s12 HTN.out (by omega) t12).mono ?_
  rintro e w13 ⟨rfl, f13⟩
  have b13 := chain b12 f13
  have s13 := s12.step f13
  have t13 := t12.step f13
  clear s12 t12 f13 b12
  go_wp2_with fail
  refine (rwith_any O M m oc Ac t tn capc _ HM.out HFA s13 HTN.out htc hmc0 t13).mono ?_
  rintro e w14 ⟨rfl, f14⟩
  have b14 := chain b13 f14
  clear s13 t13 f14 b13
  generalize (usd (fun c => cnt M c + occ t c)).length = W at *
  go_wp2_with fail
  go_ret
  exact ⟨by simp, b14⟩
end Go.Proofs.Ytaaibgbblehngaa
