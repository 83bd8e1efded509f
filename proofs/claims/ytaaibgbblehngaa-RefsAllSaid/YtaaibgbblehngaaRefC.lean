/- The walks of refs' closures, where, used, Counts, Distinct, With. -/
import Derived.Test.YtaaibgbblehngaaRefB
import Derived.Deep.QuietTactic
namespace Go.Proofs.Ytaaibgbblehngaa
open Go.RowKit

theorem infoI : (Try.prog.info? TI).map (fun i => (i.zero, i.size, i.bytes)) = some (some (.int .i64 0), 1, 8) := by kernel_rfl

/-- append of one number. -/
theorem appI {w : World} {ops : Array Oper} {rest : List Oper} {o : Oper} {a : Act} {Q : Exit → Act → World → Prop} (hgd : o.guard = none) (s x : Operand)
    (ho : o.op = .call { callee := .builtin .append, args := #[s, x], argTypes := #[39, 39] })
    {base n c : Nat} {A : Option Addr} {l : List Int} {v : Int} (hs : a.eval s = .slice A n c) (hown : Ov w base TI 1 A n c (l.map iv)) (hx : a.eval x = .slice (some ⟨w.heap.size, 0, none⟩) 1 1)
    (hbytes : n ≤ 1000000000000) (hbase : base ≤ w.heap.size)
    (h : ∀ A' c' w', Ov w' base TI 1 A' (n + 1) c' ((l ++ [v]).map iv) → (w.alloc (.cells #[.int .i64 v] TI)).grownBy w' (Value.slice A n c).ownBlock → wpList Try.prog ops Q rest (a.put o.dst (.slice A' (n + 1) c')) w') :
    wpList Try.prog ops Q (o :: rest) a (w.alloc (.cells #[.int .i64 v] TI)) := by
  obtain ⟨i, hi, hz, hsz, hby⟩ := info_parts infoI
  rw [List.map_append] at h
  exact wpList_append_rd hgd s x _ ho TI i (.int .i64 0) 1 8 Try.underlying39 hi hz hsz hby rfl (by omega) hs (hown.alloc _) hx (news := [v].map iv) rfl (Rd.new (Nat.lt_succ_self _) rfl) (iv_one _) (by omega) (by omega) (by simp; omega) (fun A' c' w' ho' hg' _ => h A' c' w' ho' hg')

/-- A row of ints of the call's own is handed back. -/
def IsRow (w : World) (l : List Int) (e : Ending) (w' : World) : Prop := ∃ A n c, e = .returned (.slice A n c) ∧ Ov w' w.heap.size TI 1 A n c (l.map iv) ∧ Below w.heap.size w w'
theorem IsRow.len {w : World} {A : Option Addr} {base n c : Nat} {l : List Int} (h : Ov w base TI 1 A n c (l.map iv)) : l.length = n := by have := h.len; simpa using this

theorem usedf_any (g : Nat) (tt : TypeId) (f : Nat → Nat) (n : Nat) (w : World) (hn : n ≤ 64) (hg : Blk w g tt (tabV f)) :
    Calls Try.prog 47 #[.int .i64 n, .pointer (some ⟨g, 0, none⟩)] w fun e w' => e = .returned (.bool (decide (0 < f n))) ∧ w = w' := by
  have hc := hg.cell n
  rw [tabV_at f n (by omega)] at hc
  go_enter Try.func47, Try.ntmps47
  go_wp2_with fail
  go_ret
  exact ⟨by simp, rfl⟩

theorem freedf_any (g h : Nat) (tt : TypeId) (f q : Nat → Nat) (n : Nat) (w : World) (hn : n ≤ 64) (hg : Blk w g tt (tabV f)) (hh : Blk w h tt (tabV q)) :
    Calls Try.prog 42 #[.int .i64 n, .pointer (some ⟨g, 0, none⟩), .pointer (some ⟨h, 0, none⟩)] w fun e w' => e = .returned (.bool (decide (0 < f n) && q n == 0)) ∧ w = w' := by
  have hc := hg.cell n
  rw [tabV_at f n (by omega)] at hc
  have hd := hh.cell n
  rw [tabV_at q n (by omega)] at hd
  by_cases h1 : 0 < f n
  · have e1 : decide ((0 : Int) < ((f n : Nat) : Int)) = true := by simp; omega
    have e3 : (((q n : Nat) : Int) == 0) = (q n == 0) := by rw [Bool.eq_iff_iff]; simp
    go_enter Try.func42, Try.ntmps42
    go_wp2_with fail
    go_ret
    exact ⟨by simp [h1], rfl⟩
  · have e1 : decide ((0 : Int) < ((f n : Nat) : Int)) = false := by simp; omega
    go_enter Try.func42, Try.ntmps42
    go_wp2_with fail
    go_ret
    exact ⟨by simp [h1], rfl⟩

set_option maxRecDepth 10000 in
set_option maxHeartbeats 800000 in
theorem whereU_any (g : Nat) (tt : TypeId) (f : Nat → Nat) (p : Nat → Bool) (w : World) (hp : Hid (∀ c, p c = decide (0 < f c))) (hg : Blk w g tt (tabV f)) :
    Calls Try.prog 41 #[.func (.func 47) #[] #[.pointer (some ⟨g, 0, none⟩)]] w (IsRow w (whr p 65)) := by
  have ltg := hg.lt
  go_enter Try.func41, Try.ntmps41
  go_wp2_with fail
  go_loopw [3, 4] (fun l i wr => ∃ (k n : Nat) (A : Option Addr) (c : Nat), i = .int .i64 k ∧ 1 ≤ k ∧ k ≤ 65 ∧ l = .slice A n c ∧ n ≤ k ∧ Ov wr w.heap.size TI 1 A n c ((whr p k).map iv) ∧ Below w.heap.size w wr) (fun _ i _ => 65 - (intOf i).toNat)
  case atStart => exact ⟨1, 0, none, 0, rfl, by omega, by omega, rfl, by omega, by rw [whr_one]; exact Ov.nil_ _ _ _ _, Below.refl _ _⟩
  case round =>
    obtain ⟨k, n, A, c, rfl, hk1, hk, rfl, hn, ho, hb⟩ := hrel
    by_cases hlt : k ≤ 64
    · have hs := Lib.hid (whr_succ p k)
      go_wp2_with fail
      refine (usedf_any g tt f k _ (by omega) (hg.below hb (by omega))).mono ?_
      rintro e w3 ⟨rfl, rfl⟩
      rw [← hp.out k]
      cases hpk : p k
      · have HS := Lib.hid (show whr p (k + 1) = whr p k by rw [hs.out, hpk]; simp)
        clear hpk hs
        go_wp2_with fail
        go_roundw
        case rel => exact ⟨k + 1, n, A, c, by go_num, by omega, by omega, rfl, by omega, by rw [HS.out]; exact ho, hb⟩
        case measure => simp [intOf]; omega
      · have HS := Lib.hid (show whr p (k + 1) = whr p k ++ [((k : Nat) : Int)] by rw [hs.out, hpk]; simp [hk1])
        clear hpk hs
        go_wp2_with (at_builtin; refine appI rfl (.tmp 12) (.tmp 14) rfl rfl ho rfl (by omega) hb.size ?_; intro A3 c3 w3 o3 g3; have b3 : Below w.heap.size w w3 := Ov.below (ho.alloc _) (hb.alloc hb.size _) g3)
        go_roundw
        case rel => exact ⟨k + 1, n + 1, A3, c3, by go_num, by omega, by omega, rfl, by omega, by rw [HS.out]; exact o3, b3⟩
        case measure => simp [intOf]; omega
    · obtain rfl : k = 65 := by omega
      have e65 : ((65 : Nat) : Int) = 65 := rfl
      rw [e65]
      clear e65
      go_wp2_with fail
      go_ret
      exact ⟨A, n, c, rfl, ho, hb⟩

set_option maxRecDepth 10000 in
set_option maxHeartbeats 800000 in
theorem whereF_any (g h : Nat) (tt : TypeId) (f q : Nat → Nat) (p : Nat → Bool) (w : World) (hp : Hid (∀ c, p c = (decide (0 < f c) && q c == 0))) (hg : Blk w g tt (tabV f)) (hh : Blk w h tt (tabV q)) :
    Calls Try.prog 41 #[.func (.func 42) #[] #[.pointer (some ⟨g, 0, none⟩), .pointer (some ⟨h, 0, none⟩)]] w (IsRow w (whr p 65)) := by
  have ltg := hg.lt
  have lth := hh.lt
  go_enter Try.func41, Try.ntmps41
  go_wp2_with fail
  go_loopw [3, 4] (fun l i wr => ∃ (k n : Nat) (A : Option Addr) (c : Nat), i = .int .i64 k ∧ 1 ≤ k ∧ k ≤ 65 ∧ l = .slice A n c ∧ n ≤ k ∧ Ov wr w.heap.size TI 1 A n c ((whr p k).map iv) ∧ Below w.heap.size w wr) (fun _ i _ => 65 - (intOf i).toNat)
  case atStart => exact ⟨1, 0, none, 0, rfl, by omega, by omega, rfl, by omega, by rw [whr_one]; exact Ov.nil_ _ _ _ _, Below.refl _ _⟩
  case round =>
    obtain ⟨k, n, A, c, rfl, hk1, hk, rfl, hn, ho, hb⟩ := hrel
    by_cases hlt : k ≤ 64
    · have hs := Lib.hid (whr_succ p k)
      go_wp2_with fail
      refine (freedf_any g h tt f q k _ (by omega) (hg.below hb (by omega)) (hh.below hb (by omega))).mono ?_
      rintro e w3 ⟨rfl, rfl⟩
      rw [← hp.out k]
      cases hpk : p k
      · have HS := Lib.hid (show whr p (k + 1) = whr p k by rw [hs.out, hpk]; simp)
        clear hpk hs
        go_wp2_with fail
        go_roundw
        case rel => exact ⟨k + 1, n, A, c, by go_num, by omega, by omega, rfl, by omega, by rw [HS.out]; exact ho, hb⟩
        case measure => simp [intOf]; omega
      · have HS := Lib.hid (show whr p (k + 1) = whr p k ++ [((k : Nat) : Int)] by rw [hs.out, hpk]; simp [hk1])
        clear hpk hs
        go_wp2_with (at_builtin; refine appI rfl (.tmp 12) (.tmp 14) rfl rfl ho rfl (by omega) hb.size ?_; intro A3 c3 w3 o3 g3; have b3 : Below w.heap.size w w3 := Ov.below (ho.alloc _) (hb.alloc hb.size _) g3)
        go_roundw
        case rel => exact ⟨k + 1, n + 1, A3, c3, by go_num, by omega, by omega, rfl, by omega, by rw [HS.out]; exact o3, b3⟩
        case measure => simp [intOf]; omega
    · obtain rfl : k = 65 := by omega
      have e65 : ((65 : Nat) : Int) = 65 := rfl
      rw [e65]
      clear e65
      go_wp2_with fail
      go_ret
      exact ⟨A, n, c, rfl, ho, hb⟩

end Go.Proofs.Ytaaibgbblehngaa
