/- The walk of (*refs.table).add. -/
import Derived.Test.YtaaibgbblehngaaRefP
import Derived.RegionTactic
import Derived.ChangeAlike
import Derived.WalkKit
import Derived.WalkLawsBesides
import Derived.Lib.Hide
namespace Go.Proofs.Ytaaibgbblehngaa
open Go.RowKit

theorem grown_setCell {w0 w : World} {g : Nat} (h : w0.grownBy w (some g)) (i : Nat) (u : Value) : w0.grownBy (w.setCell ⟨g, i, none⟩ u) (some g) :=
  ⟨h.os, h.tape, h.output, by simp; exact h.size, fun k hk hne => (Below.heap_setCell w ⟨g, i, none⟩ u k (fun e => hne (by rw [e]))).trans (h.block k hk hne)⟩
theorem grown_drew {w0 w : World} {row : Option Nat} (h : w0.grownBy w row) : w0.grownBy w.drew row := ⟨h.os, h.tape, h.output, h.size, h.block⟩

set_option maxRecDepth 10000 in
set_option maxHeartbeats 800000 in
theorem add_any (g : Nat) (tt : TypeId) (f : Nat → Nat) (Ac : Option Addr) (l : List Int) (n cc : Nat) (w : World) (hn : l.length = n) (hbd : Hid (∀ c, f c + l.length ≤ 1000000)) (hg : Blk w g tt (tabV f)) (hl : Is w g Ac l) :
    Calls Try.prog 46 #[.pointer (some ⟨g, 0, none⟩), .slice Ac n cc] w fun e w' => e = .returned (.tuple #[]) ∧ Blk w' g tt (tabV (fun c => f c + occ l c)) ∧ w.grownBy w' (some g) := by
  have HN := Lib.hid hn
  have hnb : n ≤ 1000000 := by have := hbd.out 0; omega
  clear hn
  go_enter Try.func46, Try.ntmps46
  go_wp2_with fail
  go_loopw [8] (fun i wr => ∃ k : Nat, i = .int .i64 k ∧ k ≤ n ∧ Hid (Blk wr g tt (tabV (fun c => f c + occ (l.take k) c))) ∧ w.grownBy wr (some g)) (fun i _ => n - (intOf i).toNat)
  case atStart => exact ⟨0, rfl, by omega, Lib.hid (by simpa [occ_nil] using hg), World.grownBy.refl w _⟩
  case round =>
    obtain ⟨k, rfl, hk, hb, hgr⟩ := hrel
    by_cases hlt : k < n
    · obtain ⟨b, off, rfl, hbg, hc⟩ := hl.at_ (by rw [HN.out]; exact hlt)
      have hcw : wr.cell? ⟨b, off + k, none⟩ = some (.int .i64 (l.getD k 0)) := (World.cell?_of_block (a := ⟨b, off + k, none⟩) (hgr.block b (Nat.lt_trans hbg hg.lt) (by simp; omega))).trans hc
      have hot := Lib.hid (fun c => occ_take l k c (by rw [HN.out]; exact hlt))
      clear hc
      generalize l.getD k 0 = x at *
      by_cases h1 : 1 ≤ x
      · by_cases h2 : x ≤ 64
        · obtain ⟨m, rfl⟩ := Int.eq_ofNat_of_zero_le (show (0 : Int) ≤ x by omega)
          have hm65 : m < 65 := by omega
          have hcell := hb.out.cell m
          rw [tabV_at _ m hm65] at hcell
          have hfr := hb.out.free m
          have hbm := hbd.out m
          have hol := occ_le (l.take k) m
          have hll : (l.take k).length ≤ n := by rw [List.length_take]; omega
          have hset := hb.out.set m (.int .i64 (((f m + occ (l.take k) m : Nat) : Int) + 1))
          rw [tabV_set _ (fun c => f c + occ (l.take (k + 1)) c) m _ (by show _ = Value.int .i64 ((f m + occ (l.take (k + 1)) m : Nat) : Int); rw [hot.out m, if_pos ⟨rfl, by omega⟩]; congr 1) (fun c hc hne => by show f c + occ (l.take (k + 1)) c = f c + occ (l.take k) c; rw [hot.out c, if_neg (by omega)]; omega)] at hset
          have HS := Lib.hid hset
          clear hset
          have hv : ((f m + occ (l.take k) m : Nat) : Int) ≤ 2000000 := by rw [HN.out] at hbm; omega
          have hv0 : 0 ≤ ((f m + occ (l.take k) m : Nat) : Int) := by omega
          clear hol hll hbm
          generalize ((f m + occ (l.take k) m : Nat) : Int) = v at *
          go_wp2_with fail
          go_region
          have hgr2 := grown_drew (grown_setCell hgr m (.int .i64 (v + 1)))
          go_wp2_with fail
          go_roundw
          case rel => exact ⟨k + 1, by go_num, by omega, HS, hgr2⟩
          case measure => simp [intOf]; omega
        · have hsame := Lib.hid (show Blk wr g tt (tabV (fun c => f c + occ (l.take (k + 1)) c)) by
            rw [tabV_congr (f := fun c => f c + occ (l.take (k + 1)) c) (g := fun c => f c + occ (l.take k) c) (fun c hc => by show f c + occ (l.take (k + 1)) c = f c + occ (l.take k) c; rw [hot.out c, if_neg (by omega)]; omega)]
            exact hb.out)
          go_wp2_with fail
          go_roundw
          case rel => exact ⟨k + 1, by go_num, by omega, hsame, hgr⟩
          case measure => simp [intOf]; omega
      · have hsame := Lib.hid (show Blk wr g tt (tabV (fun c => f c + occ (l.take (k + 1)) c)) by
          rw [tabV_congr (f := fun c => f c + occ (l.take (k + 1)) c) (g := fun c => f c + occ (l.take k) c) (fun c hc => by show f c + occ (l.take (k + 1)) c = f c + occ (l.take k) c; rw [hot.out c, if_neg (by omega)]; omega)]
          exact hb.out)
        go_wp2_with fail
        go_roundw
        case rel => exact ⟨k + 1, by go_num, by omega, hsame, hgr⟩
        case measure => simp [intOf]; omega
    · obtain rfl : k = n := by omega
      have hall : l.take k = l := List.take_of_length_le (by rw [HN.out]; omega)
      rw [hall] at hb
      clear hall hlt
      go_wp2_with fail
      go_end0
      exact ⟨rfl, hb.out, hgr⟩
end Go.Proofs.Ytaaibgbblehngaa
