/- The walks of refs.Without and Freed. -/
import Derived.Test.YtaaibgbblehngaaRefD
namespace Go.Proofs.Ytaaibgbblehngaa
open Go.RowKit

def wo (L : List Snp) (id : Int) : List Snp := L.filter (fun x => x.id != id)
theorem wo_take (L : List Snp) (id : Int) (k : Nat) {x : Snp} (h : L[k]? = some x) : wo (L.take (k + 1)) id = wo (L.take k) id ++ if (x.id != id) = true then [x] else [] := by
  obtain ⟨hk, rfl⟩ := List.getElem?_eq_some_iff.1 h
  unfold wo
  rw [List.take_succ_eq_append_getElem hk, List.filter_append]
  congr 1
  by_cases h : (L[k].id != id) = true
  · rw [if_pos h]; simp only [List.filter_cons, List.filter_nil, h, if_true]
  · rw [if_neg h]; simp only [List.filter_cons, List.filter_nil, if_neg h]
theorem wo_le (L : List Snp) (id : Int) : (wo L id).length ≤ L.length := List.length_filter_le _ _
theorem Few.wo {L : List Snp} (h : Few L) (id : Int) : Few (wo L id) := ⟨Nat.le_trans (wo_le L id) h.1, fun x hx => h.2 x (List.mem_filter.1 hx).1⟩

/-- A row of snapshots of the call's own is handed back. -/
def IsSnaps (w : World) (ib : Nat) (L : List Snp) (e : Ending) (w' : World) : Prop := ∃ A n c, e = .returned (.slice A n c) ∧ OwnS w' w.heap.size ib A n c L ∧ Below w.heap.size w w'

theorem grown_cell (w : World) (g i : Nat) (u : Value) : w.grownBy (w.setCell ⟨g, i, none⟩ u) (some g) := grown_setCell (World.grownBy.refl w _) i u
theorem notT_blk {w : World} {g : Nat} {t E : TypeId} {cs : Array Value} (h : Blk w g t cs) (hne : t ≠ E) : NotT w (some g) E := by
  intro k hk cs' fr e
  injection hk with hk
  subst hk
  unfold Blk at h
  rw [h] at e
  injection e with e
  injection e with _ e
  exact hne e
theorem Ov.keptN {w w' : World} {base size n c g : Nat} {E : TypeId} {A : Option Addr} {vs : List Value} (h : Ov w base E size A n c vs) (hg : w.grownBy w' (some g)) (hne : ∀ k, (Value.slice A n c).ownBlock = some k → k ≠ g) : Ov w' base E size A n c vs := by
  refine h.kept hg (fun a ha e => ?_)
  subst ha
  injection e with e
  exact hne a.block rfl e.symm
theorem OwnS.keptN {w w' : World} {base ib n c g : Nat} {A : Option Addr} {L : List Snp} (h : OwnS w base ib A n c L) (hg : w.grownBy w' (some g)) (hne : ∀ k, (Value.slice A n c).ownBlock = some k → k ≠ g) (hb : ib ≤ g) (hE : NotT w (some g) TI) : OwnS w' base ib A n c L := by
  obtain ⟨hn, vs, ho, hi⟩ := h
  exact ⟨hn, vs, ho.keptN hg hne, fun i x hx => (hi i x hx).mono fun _ _ h => h.kept hg fun k hk => by injection hk with hk; subst hk; exact ⟨hb, hE _ rfl⟩⟩
theorem OwnS.lt {w : World} {base ib n c : Nat} {A : Option Addr} {L : List Snp} (h : OwnS w base ib A n c L) : ∀ k, (Value.slice A n c).ownBlock = some k → k < w.heap.size := by
  obtain ⟨hn, vs, ho, hi⟩ := h
  exact fun k hk => (ho.row k hk).2.1

set_option maxRecDepth 10000 in
set_option maxHeartbeats 1600000 in
theorem without_any (A : Option Addr) (L : List Snp) (n c : Nat) (id : Int) (w : World) (hn : L.length = n) (hf : Hid (Few L)) (hA : Sn w w.heap.size A L) :
    Calls Try.prog 22 #[.slice A n c, .int .i64 id] w (IsSnaps w 0 (wo L id)) := by
  have HN := Lib.hid hn
  have hnb : n ≤ 100 := by have := hf.out.1; omega
  clear hn
  go_enter Try.func22, Try.ntmps22
  go_wp2_with fail
  go_loopw [5, 10] (fun l i wr => ∃ (k m : Nat) (O : Option Addr) (oc : Nat), i = .int .i64 k ∧ k ≤ n ∧ l = .slice O m oc ∧ m ≤ k ∧ OwnS wr w.heap.size 0 O m oc (wo (L.take k) id) ∧ Below w.heap.size w wr) (fun _ i _ => n - (intOf i).toNat)
  case atStart => exact ⟨0, 0, none, 0, rfl, by omega, rfl, by omega, OwnS.nil_ _ _ _, Below.refl _ _⟩
  case round =>
    obtain ⟨k, m, O, oc, rfl, hk, rfl, hm, ho, hb⟩ := hrel
    by_cases hlt : k < n
    · have hx : L[k]? = some (L[k]'(by rw [HN.out]; exact hlt)) := List.getElem?_eq_getElem _
      obtain ⟨b, off, Ac, cc, rfl, hbB, c0, c1, c2, c3, c4, hcc, hcm, hi⟩ := (hA.below hb).at_ hx
      have htk := wo_take L id k hx
      have hlen := hf.out.2 _ (List.getElem_mem (h := by rw [HN.out]; exact hlt))
      clear hx
      generalize L[k]'(by rw [HN.out]; exact hlt) = x at *
      have HTK := Lib.hid htk
      clear htk
      by_cases hid : x.id = id
      · have hne : (x.id != id) = false := by simp [hid]
        have HS := Lib.hid (show wo (L.take (k + 1)) id = wo (L.take k) id by rw [HTK.out, hne]; simp)
        have ho2 := ho.step ((Below.refl wr.heap.size wr).alloc (Nat.le_refl _) (.cells #[.int .i64 x.id, .int .i64 x.set, .slice Ac x.chunks.length cc, .bool x.held, .string x.tag] TS))
        have hb2 := hb.alloc hb.size (.cells #[.int .i64 x.id, .int .i64 x.set, .slice Ac x.chunks.length cc, .bool x.held, .string x.tag] TS)
        clear hid ho
        go_wp2_with fail
        go_roundw
        case rel => exact ⟨k + 1, m, O, oc, by go_num, by omega, rfl, by omega, by rw [HS.out]; exact ho2, hb2⟩
        case measure => simp [intOf]; omega
      · have hne : (x.id != id) = true := by simp [hid]
        have HS := Lib.hid (show wo (L.take (k + 1)) id = wo (L.take k) id ++ [x] by rw [HTK.out, hne]; simp)
        clear hid
        have bx := (Below.refl wr.heap.size wr).alloc (Nat.le_refl _) (.cells #[.int .i64 x.id, .int .i64 x.set, .slice Ac x.chunks.length cc, .bool x.held, .string x.tag] TS)
        have hbx := hb.alloc hb.size (.cells #[.int .i64 x.id, .int .i64 x.set, .slice Ac x.chunks.length cc, .bool x.held, .string x.tag] TS)
        have hox := ho.step bx
        have hkx := Blk.new wr TS #[.int .i64 x.id, .int .i64 x.set, .slice Ac x.chunks.length cc, .bool x.held, .string x.tag]
        have hltO := ho.lt
        have HI := Lib.hid ((hi.more hb.size).step bx)
        unfold TS at bx hbx hox hkx HI
        go_wp2_with fail
        generalize hwx : wr.alloc (.cells #[.int .i64 x.id, .int .i64 x.set, .slice Ac x.chunks.length cc, .bool x.held, .string x.tag] 42) = wx at *
        have hsx : wx.heap.size = wr.heap.size + 1 := by rw [← hwx, World.size_alloc]
        have HSX := Lib.hid hsx
        clear hwx hsx c0 c1 c2 c3 c4 hi ho
        refine (cloneI_any Ac x.chunks _ cc _ rfl (by omega) HI.out).mono ?_
        rintro e w3 ⟨A3, cc3, rfl, o3, f3⟩
        have hk3 := hkx.below f3 (by rw [HSX.out]; omega)
        have ho3 := hox.step f3
        have hb3 := hbx.trans (f3.mono hbx.size)
        have hcap3 := o3.cap
        have d0 := hk3.cell 0
        have d1 := hk3.cell 1
        have d2 := hk3.cell 2
        have d3 := hk3.cell 3
        have d4 := hk3.cell 4
        have e2 := hk3.free 2
        simp only [List.getElem?_toArray, List.getElem?_cons_zero, List.getElem?_cons_succ] at d0 d1 d2 d3 d4
        have gr := grown_cell w3 wr.heap.size 2 (.slice A3 x.chunks.length cc3)
        have hnT := notT_blk hk3 (show (42 : Nat) ≠ TI by decide)
        have ho4 := ho3.keptN gr (fun k hk => by have := hltO k hk; omega) (Nat.zero_le _) hnT
        have hed := (Ed.of_ov (base := 0) o3).kept gr (fun g hg => ⟨Nat.zero_le _, by injection hg with hg; subst hg; exact hnT _ rfl⟩)
        have hb4 := hb3.setCell (p := ⟨wr.heap.size, 2, none⟩) hb.size (.slice A3 x.chunks.length cc3)
        have hz4 := hb4.size
        clear hk3 hkx hox ho3 o3 f3 hb3 gr hnT HI HSX
        go_wp2_with (at_builtin; refine appSnap rfl (.tmp 22) (.tmp 24) rfl x rfl ho4 rfl (by simp) rfl rfl rfl rfl rfl hcap3.1 hcap3.2 hed (by omega) hz4 (Nat.zero_le _) ?_; intro A5 c5 w5 o5 g5; have b5 : Below w.heap.size w w5 := OwnS.below (ho4.step ((Below.refl _ _).alloc (Nat.le_refl _) _)) (hb4.alloc hz4 _) g5)
        go_roundw
        case rel => exact ⟨k + 1, m + 1, A5, c5, by go_num, by omega, rfl, by omega, by rw [HS.out]; exact o5, b5⟩
        case measure => simp [intOf]; omega
    · obtain rfl : k = n := by omega
      have hall : L.take k = L := List.take_of_length_le (by rw [HN.out]; omega)
      rw [hall] at ho
      clear hall hlt
      go_wp2_with fail
      go_ret
      exact ⟨O, m, oc, rfl, ho, hb⟩
end Go.Proofs.Ytaaibgbblehngaa
