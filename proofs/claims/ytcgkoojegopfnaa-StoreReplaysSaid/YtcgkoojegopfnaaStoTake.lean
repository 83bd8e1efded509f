/- The walks of store.some, parse, Take, and of bytes.Equal. -/
import Derived.Test.YtcgkoojegopfnaaStoPut
import Derived.Test.YtcgkoojegopfnaaClone
import Derived.Test.YtcgkoojegopfnaaDiskS
namespace Go.Proofs.Ytcgkoojegopfnaa
open Go.RowKit
set_option linter.unusedSimpArgs false
set_option linter.unusedVariables false

theorem run_from (w : World) (A : Option Addr) (n c k : Nat) (hk : k ≤ n) :
    (Instr.sliceAt 22 (.slice A n c) (some (.int .i64 k)) none none).run Try.prog w = .ok (.slice (if c = k then A else A.map (·.add k)) (n - k) (c - k)) w := by
  have h1 : (k : Int) ≤ (n : Int) := by omega
  go_simp
/-- A slice's rest. -/
theorem Bs.cut {w : World} {B n c k : Nat} {A : Option Addr} {l : List UInt8} (h : Bs w B A l) (hn : l.length = n) (hk : k ≤ n) (hnc : n ≤ c) : Bs w B (if c = k then A else A.map (·.add k)) (l.drop k) := fun hl => by
  have hlt : k < l.length := by simp at hl; omega
  obtain ⟨b, off, rfl, hb, hc⟩ := id h (by omega)
  rw [if_neg (by omega)]
  simp only [Option.map_some, Addr.add_lit]
  exact h.drop k hl
/-- The same, its address under a name. -/
theorem run_cut (A : Option Addr) (n c k : Nat) (hk : k ≤ n) (hnc : n ≤ c) : ∃ A', (∀ w, (Instr.sliceAt 22 (.slice A n c) (some (.int .i64 k)) none none).run Try.prog w = .ok (.slice A' (n - k) (c - k)) w) ∧ ∀ (w : World) (B : Nat) (l : List UInt8), l.length = n → Bs w B A l → Bs w B A' (l.drop k) :=
  ⟨_, fun w => run_from w A n c k hk, fun w B l hn h => h.cut hn hk hnc⟩

set_option maxRecDepth 10000 in
theorem some_any (A : Option Addr) (l : List UInt8) (n c : Nat) (w : World) (hn : l.length = n) (hm : n ≤ 140737488355328) (hA : Bs w w.heap.size A l) :
    Calls Try.prog 64 #[.slice A n c] w (IsCopy w l n) := by
  by_cases h0 : n = 0
  · subst h0
    have hl : l = [] := List.eq_nil_of_length_eq_zero hn
    subst hl
    clear hn
    go_enter Try.func64, Try.ntmps64
    go_wp2_with fail
    go_ret
    exact ⟨none, 0, rfl, Ob.nil_ _ _ _, Below.refl _ _⟩
  · have h1 : ((n : Int) == 0) = false := by simp; omega
    have hne : A ≠ none := by
      intro h
      obtain ⟨b, off, he, _⟩ := hA (by omega)
      rw [h] at he
      cases he
    have hcl := cloneB_any A l n c w hn (fun h => absurd h hne) hm hA
    have HC := Lib.hid hcl
    clear hn h0 hcl
    go_enter Try.func64, Try.ntmps64
    go_wp2_with fail
    refine HC.out.mono ?_
    rintro e w2 ⟨A2, c2, rfl, o2, b2⟩
    go_wp2_with fail
    go_ret
    exact ⟨A2, c2, rfl, o2, b2⟩

theorem beq_any (A B : Option Addr) (l k : List UInt8) (n c m cm : Nat) (w : World) (hn : l.length = n) (hm : k.length = m) (hA : Bs w w.heap.size A l) (hB : Bs w w.heap.size B k) :
    Calls Try.prog 51 #[.slice A n c, .slice B m cm] w fun e w' => e = .returned (.bool (l == k)) ∧ w = w' := by
  have h1 := conv (c := c) hn hA
  have h2 := conv (c := cm) hm hB
  have h3 := str_eq l k
  have H3 := Lib.hid h3
  clear hn hm h3
  go_enter Try.func51, Try.ntmps51
  go_wp2_with fail
  go_ret
  exact ⟨by rw [← H3.out]; rfl, rfl⟩

/-- A record, as a value. -/
def recV (r : Rcd) (X : Option Addr) (m c : Nat) : Value := .agg #[.int .i64 r.kind, .int .i64 r.a, .int .i64 r.b, .slice X m c]
def recC (r : Rcd) (X : Option Addr) (m c : Nat) : Array Value := #[.int .i64 r.kind, .int .i64 r.a, .int .i64 r.b, .slice X m c]
/-- What parse hands back. -/
def ParseR (w : World) (b : List UInt8) (e : Ending) (w' : World) : Prop :=
  ∃ (r : Rcd) (ok : Bool) (X : Option Addr) (m c : Nat), e = .returned (.tuple #[recV r X m c, .bool ok]) ∧ Own w' w.heap.size X m c r.x ∧ Below w.heap.size w w' ∧ ((ok = true ∧ rParse b = some r) ∨ (ok = false ∧ rParse b = none ∧ r = r0))
theorem parse_no {w w' : World} {b : List UInt8} (h : rParse b = none) (hb : Below w.heap.size w w') : ParseR w b (.returned (.tuple #[.agg #[.int .i64 0, .int .i64 0, .int .i64 0, .slice none 0 0], .bool false])) w' :=
  ⟨r0, false, none, 0, 0, rfl, Ob.nil_ _ _ _, hb, .inr ⟨rfl, h, rfl⟩⟩

theorem rParse_cons (k : UInt8) (t : List UInt8) : rParse (k :: t) = (if (vtake t).2.2 = 0 then
      if (kd (k.toNat : Int)).second = true then
        if (vtake (t.drop (vtake t).2.1)).2.2 = 0 then some ⟨(k.toNat : Int), wrapN (vtake t).1, wrapN (vtake (t.drop (vtake t).2.1)).1, (t.drop (vtake t).2.1).drop (vtake (t.drop (vtake t).2.1)).2.1⟩ else none
      else some ⟨(k.toNat : Int), wrapN (vtake t).1, 0, t.drop (vtake t).2.1⟩
    else none) := rfl

theorem Own.setT {w : World} {base n c g : Nat} {A : Option Addr} {l : List UInt8} {t : TypeId} {cs : Array Value} (h : Own w base A n c l) (hb : Blk w g t cs) (ht : t ≠ 5) (i : Nat) (u : Value) : Own (w.setCell ⟨g, i, none⟩ u) base A n c l :=
  Ob.keptT h (grown_cell w g i u) (notT_blk hb ht)
def zRec : Array Value := #[.int .i64 0, .int .i64 0, .int .i64 0, .slice none 0 0]
/-- The two records of parse: the one that is handed back, and the one that is filled. -/
def Two (g : Nat) (c1 c2 : Array Value) (s : Nat) (w : World) : Prop := Blk w g TRec zRec ∧ Blk w (g + 1) TRec (match s with | 0 => c1 | _ => c2)
theorem Two.step {g : Nat} {c1 c2 : Array Value} {s : Nat} {w w' : World} (hb : Below w.heap.size w w') (h : Two g c1 c2 s w) : Two g c1 c2 s w' := ⟨h.1.below hb h.1.lt, h.2.below hb h.2.lt⟩

set_option maxRecDepth 100000 in
set_option maxHeartbeats 3200000 in
theorem sparse_any (A : Option Addr) (b : List UInt8) (n c : Nat) (w : World) (hn : b.length = n) (hnc : n ≤ c) (hm : n ≤ 1000000) (hA : Bs w w.heap.size A b) :
    Calls Try.prog 50 #[.slice A n c] w (ParseR w b) := by
  cases b with
  | nil =>
    obtain rfl : n = 0 := hn.symm
    clear hn
    go_enter Try.func50, Try.ntmps50
    go_wp2_with fail
    exact bodyPost_ret (v := .tuple #[.agg #[.int .i64 0, .int .i64 0, .int .i64 0, .slice none 0 0], .bool false]) (by simp [results, Try.results50, go_sem]) rfl (parse_no rfl (by have := (Below.refl w.heap.size w).alloc (Nat.le_refl _) (.cells #[.int .i64 0, .int .i64 0, .int .i64 0, .slice none 0 0] TRec); exact this))
  | cons k t =>
    obtain ⟨bb, off, rfl, hlt, hcell⟩ := id hA (by simp)
    have c0 := hcell 0 (by simp)
    simp only [Nat.add_zero, List.getElem_cons_zero] at c0
    have hn1 : 0 < n := by rw [← hn]; simp
    have htl : t.length = n - 1 := by rw [← hn]; simp
    obtain ⟨A1, hs1, hA1⟩ := run_cut (some ⟨bb, off, none⟩) n c 1 hn1 hnc
    have hs1 : ∀ w, (Instr.sliceAt 22 (.slice (some ⟨bb, off, none⟩) n c) (some (.int .i64 1)) none none).run Try.prog w = .ok (.slice A1 (n - 1) (c - 1)) w := hs1
    have hB1 := hA1 w w.heap.size (k :: t) hn hA
    simp only [List.drop_succ_cons, List.drop_zero] at hB1
    have HP := Lib.hid (rParse_cons k t)
    have HTL := Lib.hid htl
    have hk255 := k.toNat_lt
    clear hn hcell hA hA1 htl
    go_enter Try.func50, Try.ntmps50
    go_wp2_with fail
    have ba := ((Below.refl w.heap.size w).alloc (Nat.le_refl _) (.cells #[.int .i64 0, .int .i64 0, .int .i64 0, .slice none 0 0] TRec)).alloc (by simp) (.cells #[.int .i64 (k.toNat : Int), .int .i64 0, .int .i64 0, .slice none 0 0] TRec)
    have k2 := (Blk.new w TRec #[.int .i64 0, .int .i64 0, .int .i64 0, .slice none 0 0]).alloc (.cells #[.int .i64 (k.toNat : Int), .int .i64 0, .int .i64 0, .slice none 0 0] TRec)
    have k4 := Blk.new (w.alloc (.cells #[.int .i64 0, .int .i64 0, .int .i64 0, .slice none 0 0] TRec)) TRec #[.int .i64 (k.toNat : Int), .int .i64 0, .int .i64 0, .slice none 0 0]
    rw [World.size_alloc] at k4
    have hB2 := (hB1.below ba).more ba.size
    have hgs : ((w.alloc (.cells #[.int .i64 0, .int .i64 0, .int .i64 0, .slice none 0 0] TRec)).alloc (.cells #[.int .i64 (k.toNat : Int), .int .i64 0, .int .i64 0, .slice none 0 0] TRec)).heap.size = w.heap.size + 2 := by simp
    have hgs' := Nat.le_of_eq hgs.symm
    clear hgs hs1 c0
    generalize (w.alloc (.cells #[.int .i64 0, .int .i64 0, .int .i64 0, .slice none 0 0] TRec)).alloc (.cells #[.int .i64 (k.toNat : Int), .int .i64 0, .int .i64 0, .slice none 0 0] TRec) = w2 at *
    refine (vtake_any A1 t (n - 1) (c - 1) _ HTL.out (by omega) hB2).mono ?_
    rintro e w' ⟨rfl, rfl⟩
    obtain ⟨v1, hv1⟩ : ∃ v, vtake t = v := ⟨_, rfl⟩
    obtain ⟨n1, s1, e1⟩ := v1
    have hok := vtake_ok t
    have HPc := HP.out
    rw [hv1] at hok HPc ⊢
    have HP2 := Lib.hid HPc
    simp only at hok ⊢
    clear hv1 HPc HP
    have z0 := k2.free 0
    have z1 := k2.free 1
    have z2 := k2.free 2
    have z3 := k2.free 3
    have y0 := k2.cell 0
    have y1 := k2.cell 1
    have y2 := k2.cell 2
    have y3 := k2.cell 3
    simp only [List.getElem?_toArray, List.getElem?_cons_zero, List.getElem?_cons_succ] at y0 y1 y2 y3
    by_cases he : e1 = 0
    · subst he
      have hs1 := (hok rfl).2.1
      have hn1' := (hok rfl).2.2.2.2.1
      have hsn : s1 ≤ n - 1 := by have := HTL.out; omega
      have HN64 := Lib.hid hn1'
      clear hok hs1 hn1'
      obtain ⟨A2, hs2, hA2⟩ := run_cut A1 (n - 1) (c - 1) s1 hsn (by omega)
      have hB3 := hA2 w w.heap.size t HTL.out hB1
      have HTL2 := Lib.hid (show (t.drop s1).length = n - 1 - s1 by rw [List.length_drop, HTL.out])
      obtain ⟨t2, ht2⟩ : ∃ t2, t.drop s1 = t2 := ⟨_, rfl⟩
      rw [ht2] at hB3 HTL2
      have HP3 := HP2.out
      simp only [if_true] at HP3
      rw [ht2] at HP3
      have HP4 := Lib.hid HP3
      have two0 : Two w.heap.size #[.int .i64 (k.toNat : Int), .int .i64 0, .int .i64 0, .slice none 0 0] #[.int .i64 (k.toNat : Int), .int .i64 (wrapN n1), .int .i64 0, .slice none 0 0] 0 w2 := ⟨k2, k4⟩
      clear HP3 HP2 ht2 hA2 k2 k4 z0 z1 z2 z3 y0 y1 y2 y3 hB2
      go_wp2_with fail
      refine wp_region_invX (B := w.heap.size) (by kernel_rfl) ?hB8 [.val (.int .u64 (n1 : Nat)), .val (.int .i64 (wrapN n1)), .val (.slice A1 (n - 1) (c - 1)), .val (.int .i64 (s1 : Nat)), .val (.slice A2 (n - 1 - s1) (c - 1 - s1)), .val (.pointer (some ⟨w.heap.size + 1, 1, none⟩)), .fxAt 0 undef, .val (.slice A2 (n - 1 - s1) (c - 1 - s1))] [6] (Two w.heap.size #[.int .i64 (k.toNat : Int), .int .i64 0, .int .i64 0, .slice none 0 0] #[.int .i64 (k.toNat : Int), .int .i64 (wrapN n1), .int .i64 0, .slice none 0 0]) (T := ?T8) (by kernel_rfl) ?hSt8 ?h08 ?hT8 ?hask8 ?hend8
      case hB8 =>
        omega
      case hSt8 =>
        exact fun _ _ _ hb h => h.step hb
      case h08 =>
        exact two0
      case hT8 =>
        intro vs
        simp only [fill, Act.put, List.setIfInBounds_toArray, List.set_cons_succ, List.set_cons_zero, Nat.reduceAdd]
        exact rfl
      case hask8 =>
        iterate 2 (refine askX_cons (fun vs w1 s hlo hhi hb hst hd hin => ?_) ?_; (focus (clear hlo hhi hst hin; simp only [DepX, Region.binds, SxI, List.getD_cons_zero, List.getD_cons_succ, Sx.av_val, Sx.av_valAt, Sx.av_fxAt, Sx.av_bsAt, Sx.av_ownAt, Sx.av_fxOwn, Sx.av_at, Sx.av_fx, Sx.av_on, Sx.av_fxOn, and_true] at hd; go_simp; exact givx_pure rfl rfl)))
        refine askX_cons (fun vs w1 s hlo hhi hb hst hd hin => ?_) ?_
        · clear hlo hhi hst
          simp only [DepX, Region.binds, SxI, List.getD_cons_zero, List.getD_cons_succ, Sx.av_val, Sx.av_valAt, Sx.av_fxAt, Sx.av_bsAt, Sx.av_ownAt, Sx.av_fxOwn, Sx.av_at, Sx.av_fx, Sx.av_on, Sx.av_fxOn, and_true] at hd
          have h7 : vs 7 = .slice A1 (n - 1) (c - 1) := hin 7 _ _ rfl rfl (by kernel_rfl)
          go_simp
          exact givx_pure rfl rfl
        iterate 3 (refine askX_cons (fun vs w1 s hlo hhi hb hst hd hin => ?_) ?_; (focus (clear hlo hhi hst hin; simp only [DepX, Region.binds, SxI, List.getD_cons_zero, List.getD_cons_succ, Sx.av_val, Sx.av_valAt, Sx.av_fxAt, Sx.av_bsAt, Sx.av_ownAt, Sx.av_fxOwn, Sx.av_at, Sx.av_fx, Sx.av_on, Sx.av_fxOn, and_true] at hd; go_simp; exact givx_pure rfl rfl)))
        refine askX_cons (fun vs w1 s hlo hhi hb hst hd hin => ?_) ?_
        · obtain rfl : s = 0 := Nat.le_antisymm hhi hlo
          clear hlo hhi
          have hst : (Two w.heap.size #[.int .i64 (k.toNat : Int), .int .i64 0, .int .i64 0, .slice none 0 0] #[.int .i64 (k.toNat : Int), .int .i64 (wrapN n1), .int .i64 0, .slice none 0 0]) 0 w1 := hst
          simp only [DepX, Region.binds, SxI, List.getD_cons_zero, List.getD_cons_succ, Sx.av_val, Sx.av_valAt, Sx.av_fxAt, Sx.av_bsAt, Sx.av_ownAt, Sx.av_fxOwn, Sx.av_at, Sx.av_fx, Sx.av_on, Sx.av_fxOn, and_true] at hd
          have hk : Blk w1 (w.heap.size + 1) TRec _ := hst.2
          have e0 := hk.cell 1
          have f0 := hk.free 1
          simp only [List.getElem?_toArray, List.getElem?_cons_zero, List.getElem?_cons_succ] at e0
          go_simp
          exact givx_skip rfl ((Below.refl w.heap.size w1).setCell (Nat.le_succ _) _) ⟨hst.1.far (by simp) _, hk.set 1 _⟩ rfl
        refine askX_cons (fun vs w1 s hlo hhi hb hst hd hin => ?_) ?_; (focus (clear hlo hhi hst hin; simp only [DepX, Region.binds, SxI, List.getD_cons_zero, List.getD_cons_succ, Sx.av_val, Sx.av_valAt, Sx.av_fxAt, Sx.av_bsAt, Sx.av_ownAt, Sx.av_fxOwn, Sx.av_at, Sx.av_fx, Sx.av_on, Sx.av_fxOn, and_true] at hd; go_simp; exact givx_pure rfl rfl))
        exact askX_nil
      case hend8 =>
        intro vs w1 hb hst hd
        simp only [AllX, SxI, List.getD_cons_zero, List.getD_cons_succ, Sx.av_val, Sx.av_valAt, Sx.av_fxAt, Sx.av_bsAt, Sx.av_ownAt, Sx.av_fxOwn, Sx.av_at, Sx.av_fx, Sx.av_on, Sx.av_fxOn, and_true, Nat.reduceAdd] at hd
        have hlast := hd.2.2.2.2.2.2.2
        clear hd
        have b3 := ba.trans hb
        have two1 : Two w.heap.size #[.int .i64 (k.toNat : Int), .int .i64 (wrapN n1), .int .i64 0, .slice none 0 0] #[.int .i64 (k.toNat : Int), .int .i64 (wrapN n1), .int .i64 0, .slice none 0 0] 0 w1 := hst
        have hsz3 := hb.size
        clear hst two0 hs2
        generalize vs 7 = v7 at *
        subst hlast
        generalize w1 = w3 at *
        have hB4 := (hB3.below b3).more b3.size
        obtain ⟨sec, hsec⟩ : ∃ sec, (kd (k.toNat : Int)).second = sec := ⟨_, rfl⟩
        rw [hsec] at HP4
        have hat := kdAt_eq (k.toNat : Int)
        rw [hsec] at hat
        have HAT := Lib.hid hat
        clear hsec hat hb hlt
        have hgl : w.heap.size + 1 < w3.heap.size := two1.2.lt
        go_wp2_with fail
        refine wp_region_invX (B := w3.heap.size) (by kernel_rfl) ?hB9 [.at 0 IsMap isMap_step, .val (.pointer (some ⟨w.heap.size + 1, 0, none⟩)), .val (.int .i64 (k.toNat : Int)), .valAt 0 0 (.agg #[.int .i64 (kd (k.toNat : Int)).least, .int .i64 (kd (k.toNat : Int)).most, .bool sec, .int .i64 (kd (k.toNat : Int)).mostB, .int .i64 ((kd (k.toNat : Int)).mostX : Nat), kdF (k.toNat : Int)]), .val (.bool sec)] [] (fun _ wx => Blk wx (w.heap.size + 1) TRec #[.int .i64 (k.toNat : Int), .int .i64 (wrapN n1), .int .i64 0, .slice none 0 0]) (T := ?T9) (by kernel_rfl) ?hSt9 ?h09 ?hT9 ?hask9 ?hend9
        case hB9 =>
          exact Nat.le_refl _
        case hSt9 =>
          exact fun _ _ _ hb h => h.below hb h.lt
        case h09 =>
          exact two1.2
        case hT9 =>
          intro vs
          simp only [fill, Act.put, List.setIfInBounds_toArray, List.set_cons_succ, List.set_cons_zero, Nat.reduceAdd]
          exact rfl
        case hask9 =>
          refine askX_cons (fun vs w1 s hlo hhi hb hst hd hin => ?_) ?_
          · obtain rfl : s = 0 := Nat.le_antisymm hhi hlo
            clear hlo hhi
            have hst : (fun _ wx => Blk wx (w.heap.size + 1) TRec #[.int .i64 (k.toNat : Int), .int .i64 (wrapN n1), .int .i64 0, .slice none 0 0]) 0 w1 := hst
            simp only [DepX, Region.binds, SxI, List.getD_cons_zero, List.getD_cons_succ, Sx.av_val, Sx.av_valAt, Sx.av_fxAt, Sx.av_bsAt, Sx.av_ownAt, Sx.av_fxOwn, Sx.av_at, Sx.av_fx, Sx.av_on, Sx.av_fxOn, and_true] at hd
            go_simp
            refine givx_enter ((kinds_any _).mono ?_)
            rintro e w2 ⟨g, rfl, h1, h2⟩
            exact ⟨_, rfl, givx_of rfl h2 ⟨g, rfl, h1⟩⟩
          refine askX_cons (fun vs w1 s hlo hhi hb hst hd hin => ?_) ?_; (focus (clear hlo hhi hst hin; simp only [DepX, Region.binds, SxI, List.getD_cons_zero, List.getD_cons_succ, Sx.av_val, Sx.av_valAt, Sx.av_fxAt, Sx.av_bsAt, Sx.av_ownAt, Sx.av_fxOwn, Sx.av_at, Sx.av_fx, Sx.av_on, Sx.av_fxOn, and_true] at hd; go_simp; exact givx_pure rfl rfl))
          refine askX_cons (fun vs w1 s hlo hhi hb hst hd hin => ?_) ?_
          · have hst : Blk w1 (w.heap.size + 1) TRec _ := hst
            clear hlo hhi hin
            simp only [DepX, Region.binds, SxI, List.getD_cons_zero, List.getD_cons_succ, Sx.av_val, Sx.av_valAt, Sx.av_fxAt, Sx.av_bsAt, Sx.av_ownAt, Sx.av_fxOwn, Sx.av_at, Sx.av_fx, Sx.av_on, Sx.av_fxOn, and_true] at hd
            have c0 := hst.cell 0
            simp only [List.getElem?_toArray, List.getElem?_cons_zero] at c0
            go_simp
            exact givx_pure rfl rfl
          refine askX_cons (fun vs w1 s hlo hhi hb hst hd hin => ?_) ?_
          · obtain rfl : s = 0 := Nat.le_antisymm hhi hlo
            clear hlo hhi
            have hst : (fun _ wx => Blk wx (w.heap.size + 1) TRec #[.int .i64 (k.toNat : Int), .int .i64 (wrapN n1), .int .i64 0, .slice none 0 0]) 0 w1 := hst
            simp only [DepX, Region.binds, SxI, List.getD_cons_zero, List.getD_cons_succ, Sx.av_val, Sx.av_valAt, Sx.av_fxAt, Sx.av_bsAt, Sx.av_ownAt, Sx.av_fxOwn, Sx.av_at, Sx.av_fx, Sx.av_on, Sx.av_fxOn, and_true] at hd
            obtain ⟨g, hv, hmap⟩ := hd.1 (Nat.le_refl 0)
            have h1 := hd.2
            clear hd
            have hl := hmap.look (k.toNat : Int) false
            rw [HAT.out] at hl
            simp only [Bool.false_eq_true, if_false] at hl
            generalize vs 0 = v0 at *
            subst hv
            go_simp
            exact givx_pure rfl rfl
          refine askX_cons (fun vs w1 s hlo hhi hb hst hd hin => ?_) ?_; (focus (clear hlo hhi hst hin; simp only [DepX, Region.binds, SxI, List.getD_cons_zero, List.getD_cons_succ, Sx.av_val, Sx.av_valAt, Sx.av_fxAt, Sx.av_bsAt, Sx.av_ownAt, Sx.av_fxOwn, Sx.av_at, Sx.av_fx, Sx.av_on, Sx.av_fxOn, and_true] at hd; go_simp; exact givx_pure rfl rfl))
          exact askX_nil
        case hend9 =>
          intro vs w1 hb hst hd
          simp only [AllX, SxI, List.getD_cons_zero, List.getD_cons_succ, Sx.av_val, Sx.av_valAt, Sx.av_fxAt, Sx.av_bsAt, Sx.av_ownAt, Sx.av_fxOwn, Sx.av_at, Sx.av_fx, Sx.av_on, Sx.av_fxOn, and_true, Nat.reduceAdd] at hd
          have hlast := hd.2.2.2.2
          clear hd
          have b4 := b3.trans (hb.mono b3.size)
          have two2 := two1.step hb
          have hB5 := hB4.step hb
          have hsz4 := hb.size
          clear hst two1 hB4 b3
          generalize vs 4 = v4 at *
          subst hlast
          generalize w1 = w4 at *
          clear hb
          go_upto_if 38 with (fail)
          go_cut [0] (fun v wx => ∃ (A3 : Option Addr) (x : List UInt8) (m3 c3 : Nat) (b2 : Int), v = .slice A3 m3 c3 ∧ x.length = m3 ∧ m3 ≤ 1000000 ∧ Bs wx wx.heap.size A3 x ∧ Two w.heap.size #[.int .i64 (k.toNat : Int), .int .i64 (wrapN n1), .int .i64 b2, .slice none 0 0] #[] 0 wx ∧ Below w.heap.size w wx ∧ rParse (k :: t) = some ⟨(k.toNat : Int), wrapN n1, b2, x⟩)
          case first =>
            cases sec
            · have HP5 := Lib.hid (show rParse (k :: t) = some ⟨(k.toNat : Int), wrapN n1, 0, t2⟩ by rw [HP4.out]; rfl)
              clear HP4
              go_wp2_with fail
              go_meet
              exact ⟨A2, t2, _, _, 0, rfl, HTL2.out, by omega, hB5, ⟨two2.1, two2.2⟩, b4, HP5.out⟩
            · have HP5 := Lib.hid (show rParse (k :: t) = (if (vtake t2).2.2 = 0 then some ⟨(k.toNat : Int), wrapN n1, wrapN (vtake t2).1, t2.drop (vtake t2).2.1⟩ else none) by rw [HP4.out]; rfl)
              clear HP4
              go_wp2_with fail
              refine (vtake_any A2 t2 _ _ _ HTL2.out (by omega) hB5).mono ?_
              rintro e w' ⟨rfl, rfl⟩
              obtain ⟨v1, hv1⟩ : ∃ v, vtake t2 = v := ⟨_, rfl⟩
              obtain ⟨n2, s2, e2⟩ := v1
              have hok2 := vtake_ok t2
              have HPc := HP5.out
              rw [hv1] at hok2 HPc ⊢
              have HP6 := Lib.hid HPc
              simp only at hok2 ⊢
              clear hv1 HPc HP5
              have z0 := two2.1.free 0
              have z1 := two2.1.free 1
              have z2 := two2.1.free 2
              have z3 := two2.1.free 3
              have y0 := two2.1.cell 0
              have y1 := two2.1.cell 1
              have y2 := two2.1.cell 2
              have y3 := two2.1.cell 3
              simp only [zRec, List.getElem?_toArray, List.getElem?_cons_zero, List.getElem?_cons_succ] at y0 y1 y2 y3
              by_cases he2 : e2 = 0
              · subst he2
                have hs2n := (hok2 rfl).2.1
                have hsn2 : s2 ≤ n - 1 - s1 := by have := HTL2.out; omega
                clear hok2 hs2n z0 z1 z2 z3 y0 y1 y2 y3
                obtain ⟨A3, hs3, hA3⟩ := run_cut A2 (n - 1 - s1) (c - 1 - s1) s2 hsn2 (by omega)
                have hB6 := hA3 w w.heap.size t2 HTL2.out hB3
                have HTL3 := Lib.hid (show (t2.drop s2).length = n - 1 - s1 - s2 by rw [List.length_drop, HTL2.out])
                have HP7 := Lib.hid (show rParse (k :: t) = some ⟨(k.toNat : Int), wrapN n1, wrapN n2, t2.drop s2⟩ by rw [HP6.out]; rfl)
                have two0 : Two w.heap.size #[.int .i64 (k.toNat : Int), .int .i64 (wrapN n1), .int .i64 0, .slice none 0 0] #[.int .i64 (k.toNat : Int), .int .i64 (wrapN n1), .int .i64 (wrapN n2), .slice none 0 0] 0 w4 := ⟨two2.1, two2.2⟩
                clear HP6 hA3 two2 hB5
                have hgl4 : w.heap.size ≤ w4.heap.size := b4.size
                go_wp2_with fail
                refine wp_region_invX (B := w.heap.size) (by kernel_rfl) ?hB13 [.val (.int .u64 (n2 : Nat)), .val (.int .i64 (wrapN n2)), .val (.slice A2 (n - 1 - s1) (c - 1 - s1)), .val (.int .i64 (s2 : Nat)), .val (.slice A3 (n - 1 - s1 - s2) (c - 1 - s1 - s2)), .val (.pointer (some ⟨w.heap.size + 1, 2, none⟩)), .fxAt 0 undef, .val (.slice A3 (n - 1 - s1 - s2) (c - 1 - s1 - s2))] [6] (Two w.heap.size #[.int .i64 (k.toNat : Int), .int .i64 (wrapN n1), .int .i64 0, .slice none 0 0] #[.int .i64 (k.toNat : Int), .int .i64 (wrapN n1), .int .i64 (wrapN n2), .slice none 0 0]) (T := ?T13) (by kernel_rfl) ?hSt13 ?h013 ?hT13 ?hask13 ?hend13
                case hB13 =>
                  omega
                case hSt13 =>
                  exact fun _ _ _ hb h => h.step hb
                case h013 =>
                  exact two0
                case hT13 =>
                  intro vs
                  simp only [fill, Act.put, List.setIfInBounds_toArray, List.set_cons_succ, List.set_cons_zero, Nat.reduceAdd]
                  exact rfl
                case hask13 =>
                  iterate 2 (refine askX_cons (fun vs w1 s hlo hhi hb hst hd hin => ?_) ?_; (focus (clear hlo hhi hst hin; simp only [DepX, Region.binds, SxI, List.getD_cons_zero, List.getD_cons_succ, Sx.av_val, Sx.av_valAt, Sx.av_fxAt, Sx.av_bsAt, Sx.av_ownAt, Sx.av_fxOwn, Sx.av_at, Sx.av_fx, Sx.av_on, Sx.av_fxOn, and_true] at hd; go_simp; exact givx_pure rfl rfl)))
                  refine askX_cons (fun vs w1 s hlo hhi hb hst hd hin => ?_) ?_
                  · clear hlo hhi hst
                    simp only [DepX, Region.binds, SxI, List.getD_cons_zero, List.getD_cons_succ, Sx.av_val, Sx.av_valAt, Sx.av_fxAt, Sx.av_bsAt, Sx.av_ownAt, Sx.av_fxOwn, Sx.av_at, Sx.av_fx, Sx.av_on, Sx.av_fxOn, and_true] at hd
                    have h7 : vs 7 = .slice A2 (n - 1 - s1) (c - 1 - s1) := hin 7 _ _ rfl rfl (by kernel_rfl)
                    go_simp
                    exact givx_pure rfl rfl
                  iterate 3 (refine askX_cons (fun vs w1 s hlo hhi hb hst hd hin => ?_) ?_; (focus (clear hlo hhi hst hin; simp only [DepX, Region.binds, SxI, List.getD_cons_zero, List.getD_cons_succ, Sx.av_val, Sx.av_valAt, Sx.av_fxAt, Sx.av_bsAt, Sx.av_ownAt, Sx.av_fxOwn, Sx.av_at, Sx.av_fx, Sx.av_on, Sx.av_fxOn, and_true] at hd; go_simp; exact givx_pure rfl rfl)))
                  refine askX_cons (fun vs w1 s hlo hhi hb hst hd hin => ?_) ?_
                  · obtain rfl : s = 0 := Nat.le_antisymm hhi hlo
                    clear hlo hhi
                    have hst : (Two w.heap.size #[.int .i64 (k.toNat : Int), .int .i64 (wrapN n1), .int .i64 0, .slice none 0 0] #[.int .i64 (k.toNat : Int), .int .i64 (wrapN n1), .int .i64 (wrapN n2), .slice none 0 0]) 0 w1 := hst
                    simp only [DepX, Region.binds, SxI, List.getD_cons_zero, List.getD_cons_succ, Sx.av_val, Sx.av_valAt, Sx.av_fxAt, Sx.av_bsAt, Sx.av_ownAt, Sx.av_fxOwn, Sx.av_at, Sx.av_fx, Sx.av_on, Sx.av_fxOn, and_true] at hd
                    have hk : Blk w1 (w.heap.size + 1) TRec _ := hst.2
                    have e0 := hk.cell 2
                    have f0 := hk.free 2
                    simp only [List.getElem?_toArray, List.getElem?_cons_zero, List.getElem?_cons_succ] at e0
                    go_simp
                    exact givx_skip rfl ((Below.refl w.heap.size w1).setCell (Nat.le_succ _) _) ⟨hst.1.far (by simp) _, hk.set 2 _⟩ rfl
                  refine askX_cons (fun vs w1 s hlo hhi hb hst hd hin => ?_) ?_; (focus (clear hlo hhi hst hin; simp only [DepX, Region.binds, SxI, List.getD_cons_zero, List.getD_cons_succ, Sx.av_val, Sx.av_valAt, Sx.av_fxAt, Sx.av_bsAt, Sx.av_ownAt, Sx.av_fxOwn, Sx.av_at, Sx.av_fx, Sx.av_on, Sx.av_fxOn, and_true] at hd; go_simp; exact givx_pure rfl rfl))
                  exact askX_nil
                case hend13 =>
                  intro vs w1 hb hst hd
                  simp only [AllX, SxI, List.getD_cons_zero, List.getD_cons_succ, Sx.av_val, Sx.av_valAt, Sx.av_fxAt, Sx.av_bsAt, Sx.av_ownAt, Sx.av_fxOwn, Sx.av_at, Sx.av_fx, Sx.av_on, Sx.av_fxOn, and_true, Nat.reduceAdd] at hd
                  have hlast := hd.2.2.2.2.2.2.2
                  clear hd
                  have b5 := b4.trans hb
                  have two3 : Two w.heap.size #[.int .i64 (k.toNat : Int), .int .i64 (wrapN n1), .int .i64 (wrapN n2), .slice none 0 0] #[] 0 w1 := hst
                  clear hst two0 hs3
                  generalize vs 7 = v7 at *
                  subst hlast
                  go_wp2_with fail
                  go_meet
                  exact ⟨A3, _, _, _, wrapN n2, rfl, HTL3.out, by omega, (hB6.below b5).more b5.size, two3, b5, HP7.out⟩
              · have he2' : (((e2 : Nat) : Int) == 0) = false := by simp; omega
                have HNO := Lib.hid (show rParse (k :: t) = none by rw [HP6.out]; simp only; rw [if_neg he2])
                clear HP6 hok2
                go_wp2_with fail
                exact bodyPost_ret (v := .tuple #[.agg #[.int .i64 0, .int .i64 0, .int .i64 0, .slice none 0 0], .bool false]) (by simp [results, Try.results50, go_sem, y0, y1, y2, y3]) rfl (parse_no HNO.out ((((b4.setCell (Nat.le_refl _) _).setCell (Nat.le_refl _) _).setCell (Nat.le_refl _) _).setCell (Nat.le_refl _) _))
          case rest =>
            obtain ⟨A3, x, m3, c3, b2, rfl, hx, hm3, hBx, two, bw, hpr⟩ := hcut
            have HX := Lib.hid hx
            have HPR := Lib.hid hpr
            have hgl5 := two.2.lt
            clear two2 b4 hB5 HP4 hx hpr hsz4 hB3 hB1 hnc
            go_wp2_with fail
            refine (some_any A3 x m3 c3 _ HX.out (by omega) hBx).mono ?_
            rintro e w6 ⟨A6, c6, rfl, o6, b6⟩
            have k2 := two.1.below b6 two.1.lt
            have k4 := two.2.below b6 two.2.lt
            have bw6 := bw.trans (b6.mono bw.size)
            have o6' := Ob.mono o6 bw.size
            have hgl6 := k4.lt
            clear two bw b6 o6 hBx
            have z0 := k2.free 0
            have z1 := k2.free 1
            have z2 := k2.free 2
            have z3 := k2.free 3
            have y0 := k2.cell 0
            have y1 := k2.cell 1
            have y2 := k2.cell 2
            have y3 := k2.cell 3
            have q3 := k4.free 3
            have p0 := k4.cell 0
            have p1 := k4.cell 1
            have p2 := k4.cell 2
            have p3 := k4.cell 3
            simp only [zRec, List.getElem?_toArray, List.getElem?_cons_zero, List.getElem?_cons_succ] at y0 y1 y2 y3 p0 p1 p2 p3
            go_wp2_with fail
            have o1 := Own.setT o6' k4 (by decide) 3 (.slice A6 m3 c6)
            have k2a := k2.far (p := ⟨w.heap.size + 1, 3, none⟩) (by simp) (.slice A6 m3 c6)
            have o2 := Own.setT o1 k2a (by decide) 0 (.int .i64 (k.toNat : Int))
            have k2b := k2a.set 0 (.int .i64 (k.toNat : Int))
            have o3 := Own.setT o2 k2b (by decide) 1 (.int .i64 (wrapN n1))
            have k2c := k2b.set 1 (.int .i64 (wrapN n1))
            have o4 := Own.setT o3 k2c (by decide) 2 (.int .i64 b2)
            have k2d := k2c.set 2 (.int .i64 b2)
            have o5 := Own.setT o4 k2d (by decide) 3 (.slice A6 m3 c6)
            exact bodyPost_ret (v := .tuple #[.agg #[.int .i64 (k.toNat : Int), .int .i64 (wrapN n1), .int .i64 b2, .slice A6 m3 c6], .bool true]) (by simp [results, Try.results50, go_sem, y0, y1, y2, y3]) rfl
              ⟨⟨(k.toNat : Int), wrapN n1, b2, x⟩, true, A6, m3, c6, rfl, o5, ((((bw6.setCell (Nat.le_succ _) _).setCell (Nat.le_refl _) _).setCell (Nat.le_refl _) _).setCell (Nat.le_refl _) _).setCell (Nat.le_refl _) _, .inl ⟨rfl, HPR.out⟩⟩
    · have he' : (((e1 : Nat) : Int) == 0) = false := by simp; omega
      have HNO := Lib.hid (show rParse (k :: t) = none by rw [HP2.out]; simp only; rw [if_neg he])
      clear HP2 hok
      go_wp2_with fail
      exact bodyPost_ret (v := .tuple #[.agg #[.int .i64 0, .int .i64 0, .int .i64 0, .slice none 0 0], .bool false]) (by simp [results, Try.results50, go_sem, y0, y1, y2, y3]) rfl (parse_no HNO.out ((((ba.setCell (Nat.le_refl _) _).setCell (Nat.le_refl _) _).setCell (Nat.le_refl _) _).setCell (Nat.le_refl _) _))
end Go.Proofs.Ytcgkoojegopfnaa
