/- The walk of the law VarintBack. -/
import Derived.Test.YtaaibgbblehngaaVintS
import Derived.Test.YtaaibgbblehngaaVintV
import Derived.Deep.DeepCutAuto
import Derived.Deep.RegionWith
namespace Go.Proofs.Ytaaibgbblehngaa
open Go.RowKit

set_option maxRecDepth 10000 in
set_option maxHeartbeats 1600000 in
theorem back_nat (w : World) (x : Nat) (hx : Hid (x < 18446744073709551616)) (k : Int) (hk : -9223372036854775808 ≤ k ∧ k ≤ 9223372036854775807) (A : Option Addr) (l : List UInt8) (n cap : Nat) (hn : l.length = n) (hcap : n ≤ cap) (hm : cap ≤ maxLen) (hA : Bs w w.heap.size A l) :
    Calls Try.prog 8 #[.int .u64 x, .int .i64 k, .slice A n cap] w fun e w' => e = .returned (.bool true) ∧ Below w.heap.size w w' := by
  unfold maxLen at hm
  obtain ⟨m, hmm⟩ : ∃ m, m = min n 30 := ⟨_, rfl⟩
  have hlm : (l.take 30).length = m := by rw [List.length_take]; omega
  have HM := Lib.hid hmm
  have hmn : m ≤ n := by omega
  have hm30 : m ≤ 30 := by omega
  have hT := hA.take 30
  clear hn hmm
  generalize hl' : l.take 30 = t at *
  have HT := Lib.hid hlm
  clear hlm hl'
  go_enter Try.func8, Try.ntmps8
  go_wp2_with fail
  refine (shown01_any _).mono ?_
  rintro e w1 ⟨rfl, b1⟩
  have r1 := hT.step b1
  clear hT hA
  go_upto_if 19 with (fail)
  go_cut [2] (fun s wx => s = .slice A m cap ∧ wx = w1)
  case first =>
    by_cases h30 : 30 < n
    · obtain rfl : m = 30 := by have := HM.out; omega
      have h30c : 30 ≤ cap := by omega
      go_wp2_with fail
      go_meet
      exact ⟨rfl, rfl⟩
    · obtain rfl : m = n := by have := HM.out; omega
      go_wp2_with fail
      go_meet
      exact ⟨rfl, rfl⟩
  case rest =>
    obtain ⟨rfl, rfl⟩ := hcut
    have hs10 := vsize_le x
    have hs1 := vsize_pos x
    go_wp2_with fail
    refine (vput_any x _ hx).mono ?_
    rintro e w2 ⟨P, c2, rfl, o2, f2⟩
    have r2 := r1.step f2
    have b2 := chain b1 f2
    have hpl := Lib.hid o2.1
    have hz : Ob (w2.alloc (.cells #[] 5)) w2.heap.size 5 (some ⟨w2.heap.size, 0, none⟩) 0 0 [] := Ob.empty (Nat.le_refl _)
    have d2 : Below w2.heap.size w2 (w2.alloc (.cells #[] 5)) := (Below.refl _ _).alloc (Nat.le_refl _) _
    have ps := o2.bs.step d2
    have ts := r2.step d2
    go_wp2_with (first
      | (at_builtin; refine app rfl (.tmp 25) (.tmp 26) rfl rfl hz rfl hpl.out ps (by omega) d2.size ?_; intro A3 c3 w3 o3 g3 _; simp only [Nat.zero_add, List.nil_append] at o3; have d3 : Below w2.heap.size w2 w3 := Own.grown hz d2 g3; have ts3 := (r2.step d3))
      | (at_builtin; refine app rfl (.tmp 27) (.tmp 28) rfl rfl o3 rfl HT.out ts3 (by omega) d3.size ?_; intro A4 c4 w4 o4 g4 _; have d4 : Below w2.heap.size w2 w4 := Own.grown o3 d3 g4))
    have hl4 := Lib.hid o4.1
    have hc4 := o4.cap
    unfold maxLen at hc4
    refine (vtake_any _ (vput x ++ t) _ _ _ hl4.out (by omega) o4.bs).mono ?_
    rintro e w5 ⟨rfl, rfl⟩
    rw [vtake_put x t hx.out]
    have pcap := o2.cap
    unfold maxLen at pcap
    obtain ⟨pc1, pc2⟩ := pcap
    have ps4 := o2.bs.step d4
    have b4 := chain b2 d4
    have hzk := Lib.hid (zig_lt k hk)
    have hzx := zag_bd x hx.out
    have hcutx := Lib.hid (fun c (hc : c < vsize x) => vtake_cut x c hc)
    have hpt := Lib.hid (fun c (hc : c ≤ vsize x) => (ps4.take c))
    have hpt2 := Lib.hid (fun c (hc : c ≤ vsize x) => (show ((vput x).take c).length = c by rw [List.length_take]; have := hpl.out; omega))
    clear hc4 o4 o3 hz d2 ps ts g3 g4 ts3 d3 r2 o2 r1
    generalize hsx : vsize x = s at *
    have HSX := Lib.hid hsx
    clear hsx
    have t1 : decide ((s : Int) < 1) = false := by simp; omega
    have t2 : decide (10 < (s : Int)) = false := by simp; omega
    go_wp2_with (go_at_call 16; refine (size_any x _ hx).mono ?_; rintro e w' ⟨rfl, rfl⟩; rw [HSX.out])
    go_loop [6, 12] (fun _ i => ∃ c : Nat, i = .int .i64 c ∧ c ≤ s) (fun _ i => s - (intOf i).toNat)
    case atStart => exact ⟨0, rfl, by omega⟩
    case round =>
      obtain ⟨c, rfl, hc⟩ := hrel
      by_cases hlt : c < s
      · have hq := hpt.out c (by omega)
        have hql := Lib.hid (hpt2.out c (by omega))
        have hcc : c ≤ c2 := by omega
        go_wp2_with fail
        refine (vtake_any _ ((vput x).take c) c c2 _ hql.out (by omega) hq).mono ?_
        rintro e w' ⟨rfl, rfl⟩
        rw [hcutx.out c hlt]
        go_wp2_with fail
        go_round
        case rel => exact ⟨c + 1, by go_num, by omega⟩
        case measure => simp [intOf]; omega
      · obtain rfl : c = s := by omega
        have hzz := Lib.hid (zag_zig k)
        have hzy := Lib.hid (zig_zag x)
        go_wp2_with (first
          | (go_at_call_of 17 (Value.int .i64 k); refine (zig_any k _ hk).mono ?_; rintro e w' ⟨rfl, rfl⟩)
          | (go_at_call_of 27 (Value.int .u64 ((zig k : Nat) : Int)); refine (zag_any (zig k) _ hzk).mono ?_; rintro e w' ⟨rfl, rfl⟩; rw [hzz.out])
          | (go_at_call_of 27 (Value.int .u64 ((x : Nat) : Int)); refine (zag_any x _ hx).mono ?_; rintro e w' ⟨rfl, rfl⟩)
          | (go_at_call_of 17 (Value.int .i64 (zag x)); refine (zig_any (zag x) _ hzx).mono ?_; rintro e w' ⟨rfl, rfl⟩; rw [hzy.out]))
        go_ret
        exact ⟨by simp, b4⟩

theorem varintBack_walk (w : World) (a : Int) (ha : 0 ≤ a ∧ a ≤ 18446744073709551615) (k : Int) (hk : -9223372036854775808 ≤ k ∧ k ≤ 9223372036854775807) (A : Option Addr) (l : List UInt8) (n cap : Nat) (hn : l.length = n) (hcap : n ≤ cap) (hm : cap ≤ maxLen) (hA : Bs w w.heap.size A l) :
    Calls Try.prog 8 #[.int .u64 a, .int .i64 k, .slice A n cap] w fun e w' => e = .returned (.bool true) ∧ Below w.heap.size w w' := by
  obtain ⟨x, rfl⟩ := Int.eq_ofNat_of_zero_le ha.1
  exact back_nat w x (Lib.hid (by omega)) k hk A l n cap hn hcap hm hA
end Go.Proofs.Ytaaibgbblehngaa
