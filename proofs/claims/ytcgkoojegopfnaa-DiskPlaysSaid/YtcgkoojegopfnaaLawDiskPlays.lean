/- The walk of the law DiskPlays. -/
import Derived.Test.YtcgkoojegopfnaaLawDiskKeeps
import Derived.Test.YtcgkoojegopfnaaMeans
import Derived.Test.YtcgkoojegopfnaaClone
import Derived.Deep.DeepCutAuto
namespace Go.Proofs.Ytcgkoojegopfnaa
open Go.RowKit
set_option linter.unusedSimpArgs false
set_option linter.unusedVariables false

/-- What is done keeps a disk within its bounds. -/
theorem opDo_ok (d : Dsk) (r : Nat) (n : Int) (x : List UInt8) (h : d.ok) : (opDo d r n x).1.ok := by
  match r with
  | 0 => exact h.append x
  | 1 => exact h.sync
  | 2 => exact h.doom n
  | 3 => exact h.crash n
  | 4 => exact h.up
  | 5 => exact h.cut n
  | r + 6 => exact h

/-- Two disks, the program's and the document's, that are alike and share nothing. -/
def Both (w : World) (base g h : Nat) (d y : Dsk) : Prop := ∃ q p, Dk w base g q d ∧ Rk w base h p y ∧ (∀ k, q = some k → p ≠ some k)
theorem Both.step {w w' : World} {base g h : Nat} {d y : Dsk} (hb : Below w.heap.size w w') (k : Both w base g h d y) : Both w' base g h d y := by
  obtain ⟨q, p, h1, h2, h3⟩ := k
  exact ⟨q, p, h1.step hb, h2.step hb, h3⟩
theorem Dk.gh {w : World} {base g h : Nat} {q p : Option Nat} {d y : Dsk} (h1 : Dk w base g q d) (h2 : Rk w base h p y) : g ≠ h ∧ (∀ k, q = some k → k ≠ h) ∧ (∀ k, p = some k → k ≠ g) := by
  obtain ⟨_, _, A, n, c, rfl, hb1, ho1⟩ := h1
  obtain ⟨_, _, A2, n2, c2, rfl, hb2, ho2⟩ := h2
  unfold Blk at hb1 hb2
  refine ⟨fun e => ?_, fun k hk e => ?_, fun k hk e => ?_⟩
  · subst e
    rw [hb1] at hb2
    injection hb2 with hb2
    injection hb2 with _ hb2
    exact absurd hb2 (by decide)
  · subst e
    obtain ⟨_, _, cs, h3⟩ := ho1.row k hk
    rw [hb2] at h3
    injection h3 with h3
    injection h3 with _ h3
    exact absurd h3 (by decide)
  · subst e
    obtain ⟨_, _, cs, h3⟩ := ho2.row k hk
    rw [hb1] at h3
    injection h3 with h3
    injection h3 with _ h3
    exact absurd h3 (by decide)
/-- Something is done to the program's disk. -/
theorem Both.left {w w' : World} {base g h : Nat} {q q' p : Option Nat} {d d' y : Dsk} (h1 : Dk w base g q d) (h2 : Rk w base h p y) (h3 : ∀ k, q = some k → p ≠ some k) (hd : Dk w' base g q' d') (ht : Touch w w' g q) (hm : Moved w q q') : Both w' base g h d' y := by
  obtain ⟨a, b, c⟩ := h1.gh h2
  refine ⟨q', p, hd, h2.kept ht (fun e => a e.symm) (fun e => b h e.symm rfl) (fun e => c g e rfl) (fun k hk e => h3 k e hk), fun k hk e => ?_⟩
  rcases hm with hm | ⟨k2, hm, hle⟩
  · exact h3 k (by rw [← hm]; exact hk) e
  · rw [hm] at hk
    injection hk with hk
    have := h2.glt k e
    omega
theorem Both.right {w w' : World} {base g h : Nat} {q p p' : Option Nat} {d y y' : Dsk} (h1 : Dk w base g q d) (h2 : Rk w base h p y) (h3 : ∀ k, q = some k → p ≠ some k) (hy : Rk w' base h p' y') (ht : Touch w w' h p) (hm : Moved w p p') : Both w' base g h d y' := by
  obtain ⟨a, b, c⟩ := h1.gh h2
  refine ⟨q, p', h1.kept ht a (fun e => c g e.symm rfl) (fun e => b h e rfl) (fun k hk e => h3 k hk e), hy, fun k hk e => ?_⟩
  rcases hm with hm | ⟨k2, hm, hle⟩
  · exact h3 k hk (by rw [← hm]; exact e)
  · rw [hm] at e
    injection e with e
    have := h1.glt k hk
    omega

set_option maxRecDepth 100000 in
set_option maxHeartbeats 3200000 in
theorem diskPlays_walk (w : World) (A : Option Addr) (L : List Opn) (n c : Nat) (hn : L.length = n) (hc : n ≤ c) (hm : c ≤ maxLen) (hA : Po w w.heap.size A L) :
    Calls Try.prog 6 #[.slice A n c] w fun e w' => e = .returned (.bool true) ∧ Below w.heap.size w w' := by
  unfold maxLen at hm
  have HN := Lib.hid hn
  clear hn
  go_enter Try.func6, Try.ntmps6
  go_wp2_with fail
  refine (shown14_any _).mono ?_
  rintro e w1 ⟨rfl, b1⟩
  go_wp2_with fail
  refine (new_any _).mono ?_
  rintro e w2 ⟨g, rfl, d0, f2⟩
  have b2 := chain b1 f2
  clear f2
  go_wp2_with fail
  have start : Both (w2.alloc (.cells #[.slice none 0 0, .int .i64 0, .bool false, .bool false, .int .i64 0] TR)) w.heap.size g w2.heap.size dNew dNew := by
    have hb3 := (Below.refl w2.heap.size w2).alloc (Nat.le_refl _) (.cells #[.slice none 0 0, .int .i64 0, .bool false, .bool false, .int .i64 0] TR)
    exact ⟨none, none, (d0.mono b1.size).step hb3, ⟨b2.size, dNew_ok, none, 0, 0, rfl, Blk.new w2 TR _, Ob.nil_ _ _ _⟩, by simp⟩
  have b3 := b2.alloc b2.size (.cells #[.slice none 0 0, .int .i64 0, .bool false, .bool false, .int .i64 0] TR)
  obtain ⟨h, hh⟩ : ∃ h, w2.heap.size = h := ⟨_, rfl⟩
  rw [hh] at start ⊢
  have HH := Lib.hid hh
  clear d0 b2 hh
  go_loopw [4, 6] (fun v i wr => ∃ k g : Nat, ∃ d : Dsk, i = .int .i64 k ∧ v = .pointer (some ⟨g, 0, none⟩) ∧ k ≤ n ∧ k ≤ 40 ∧ Both wr w.heap.size g h d d ∧ Below w.heap.size w wr) (fun _ i _ => n - (intOf i).toNat)
  case atStart => exact ⟨0, g, dNew, rfl, rfl, by omega, by omega, start, b3⟩
  case round =>
    clear start b3
    obtain ⟨k, g, d, rfl, rfl, hk, hk40, hboth, hb⟩ := hrel
    by_cases hlt : k < n ∧ k < 40
    · obtain ⟨hlt, hlt40⟩ := hlt
      go_upto_if 30 with (fail)
      go_cut [4] (fun v wx => ∃ g, v = .pointer (some ⟨g, 0, none⟩) ∧ Both wx w.heap.size g h d d ∧ Below w.heap.size w wx)
      case first =>
        obtain ⟨q, p, dk, rk, hdis⟩ := hboth
        by_cases h6 : k % 7 = 6
        · have e6 : ((k : Int) % 7 == 6) = true := by simp; omega
          go_wp2_with fail
          refine (clone_any _ g q d _ dk).mono ?_
          rintro e w3 ⟨g3, q3, rfl, d3, f3⟩
          have dko := dk.step f3
          have rk3 := rk.step f3
          have b3 := chain hb f3
          have hs3 := f3.size
          clear e6
          go_wp2_with fail
          have d4 := d3.step ((Below.refl w3.heap.size w3).alloc (Nat.le_refl _) (.cells #[.int .u8 9] 5))
          have do4 := dko.step ((Below.refl w3.heap.size w3).alloc (Nat.le_refl _) (.cells #[.int .u8 9] 5))
          have rk4 := rk3.step ((Below.refl w3.heap.size w3).alloc (Nat.le_refl _) (.cells #[.int .u8 9] 5))
          have b4 := b3.alloc b3.size (.cells #[.int .u8 9] 5)
          refine (append_any w.heap.size g q d _ [9] 1 1 _ do4 b4.size rfl ((Bs.new (B := w3.heap.size + 1) (Nat.lt_succ_self _) rfl).more (by simp))).mono ?_
          rintro e w5 ⟨q5, rfl, d5, t5, m5⟩
          have b5 := Touch.below b4 t5 dko.ge dko.qge
          have hg0 := dk.g_lt
          have hq0 := dk.glt
          have hg3 := d3.ge
          have hg4 := d4.g_lt
          have hq4 := d4.q_lt
          have n4 := d4.kept t5 (by omega) (fun e => by have := hq0 g3 e.symm; omega) (fun e => by have := (hq4 g e).1; omega) (fun k hk e => by have h1 := (hq4 k hk).1; have h2 := hq0 k e; omega)
          obtain ⟨_, h45, h46⟩ := do4.gh rk4
          have ra := rk4.kept t5 (fun e => (do4.gh rk4).1 e.symm) (fun e => h45 h e.symm rfl) (fun e => h46 g e rfl) (fun k hk e => hdis k e hk)
          have hpl := rk4.glt
          have m5' : q5 = q ∨ ∃ k, q5 = some k ∧ (w3.alloc (.cells #[.int .u8 9] 5)).heap.size ≤ k := m5
          clear d4 do4 rk4 b4
          go_wp2_with fail
          refine (crash_any w.heap.size g q5 _ 0 _ d5).mono ?_
          rintro e w6 ⟨q6, rfl, d6, t6, m6⟩
          have b6 := Touch.below b5 t6 d5.ge d5.qge
          obtain ⟨_, h55, h56⟩ := d5.gh ra
          have nq3 : some g3 ≠ q5 := by
            intro e
            rcases m5' with m | ⟨k, m, hk⟩
            · rw [m] at e; have := hq0 g3 e.symm; omega
            · rw [m] at e; injection e with e; omega
          have nq4 : ∀ k, q3 = some k → q5 ≠ some k := by
            intro k hk e
            have h1 := hq4 k hk
            rcases m5' with m | ⟨k2, m, hk2⟩
            · rw [m] at e; have := hq0 k e; omega
            · rw [m] at e; injection e with e; omega
          have nq5 : ∀ k, p = some k → q5 ≠ some k := by
            intro k hk e
            rcases m5' with m | ⟨k2, m, hk2⟩
            · rw [m] at e; exact hdis k e hk
            · rw [m] at e; injection e with e; have := hpl k hk; omega
          have n6 := n4.kept t6 (by omega) nq3 (fun e => by have := (hq4 g e).1; omega) nq4
          have r6 := ra.kept t6 (fun e => (d5.gh ra).1 e.symm) (fun e => h55 h e.symm rfl) (fun e => h56 g e rfl) nq5
          clear h45 h46 h55 h56 nq3 nq4 nq5 m5 m5' m6 t6 d6 d5 n4 ra t5
          go_wp2_with fail
          go_meet
          exact ⟨g3, rfl, ⟨q3, p, n6.mono hb.size, r6, fun k hk e => by have h1 := (hq4 k hk).1; have h2 := rk.glt k e; omega⟩, b6⟩
        · have e6 : ((k : Int) % 7 == 6) = false := by simp; omega
          go_wp2_with fail
          go_meet
          exact ⟨g, rfl, ⟨q, p, dk, rk, hdis⟩, hb⟩
      case rest =>
        obtain ⟨g, rfl, hboth, hb⟩ := hcut
        have hx : L[k]? = some (L[k]'(by rw [HN.out]; exact hlt)) := List.getElem?_eq_getElem _
        obtain ⟨b, off, Ac, cc, rfl, hbB, c0, c1, c2, hcc, hcm, hxn, hAc⟩ := (hA.below hb) k _ hx
        clear hx
        generalize L[k]'(by rw [HN.out]; exact hlt) = x at *
        obtain ⟨d', e', hde⟩ : ∃ d' e', opDo d (x.kind.toNat % 8) x.n (x.b.take 3000) = (d', e') := ⟨_, _, rfl⟩
        have HDE := Lib.hid hde
        have hbw := hb
        clear hde
        go_wp2_with fail
        refine wp_region_invX (B := w.heap.size) (by kernel_rfl) ?hB16 [.val (.pointer (some ⟨g, 0, none⟩)), .val (.slice (some ⟨b, off, none⟩) n c), .val (.int .i64 (k : Nat)), .val (.pointer (some ⟨b, off + k * 3, none⟩)), .val (.agg #[.int .u8 (x.kind.toNat : Int), .int .i64 x.n, .slice Ac x.b.length cc]), .fxAt 0 (.int .i64 e'), .val (.pointer (some ⟨h, 0, none⟩)), .val (.slice (some ⟨b, off, none⟩) n c), .val (.int .i64 (k : Nat)), .val (.pointer (some ⟨b, off + k * 3, none⟩)), .val (.agg #[.int .u8 (x.kind.toNat : Int), .int .i64 x.n, .slice Ac x.b.length cc]), .fxAt 1 (.int .i64 e'), .val (.bool false), .val (.bool false), .val (.pointer (some ⟨g, 0, none⟩)), .bsAt 2 d'.b, .valAt 2 2 (.string (strOf d'.b)), .val (.pointer (some ⟨h, 0, none⟩)), .val (.pointer (some ⟨h, 0, none⟩)), .val (.pointer (some ⟨h, 0, none⟩)), .bsAt 2 d'.b, .valAt 2 2 (.string (strOf d'.b)), .val (.bool false), .val (.bool false), .val (.bool false), .val (.pointer (some ⟨g, 0, none⟩)), .valAt 2 2 (.int .i64 (d'.syn : Nat)), .val (.pointer (some ⟨h, 0, none⟩)), .val (.pointer (some ⟨h, 0, none⟩)), .val (.pointer (some ⟨h, 1, none⟩)), .valAt 2 2 (.int .i64 (d'.syn : Nat)), .val (.bool false), .val (.bool false), .val (.bool false), .val (.pointer (some ⟨g, 0, none⟩)), .valAt 2 2 (.bool d'.down), .val (.pointer (some ⟨h, 0, none⟩)), .val (.pointer (some ⟨h, 0, none⟩)), .val (.pointer (some ⟨h, 2, none⟩)), .valAt 2 2 (.bool d'.down), .val (.bool false), .val (.bool false)] [5, 11] (fun s wx => Both wx w.heap.size g h (match s with | 0 => d | _ => d') (match s with | 0 => d | 1 => d | _ => d')) (T := ?T16) (by kernel_rfl) ?hSt16 ?h016 ?hT16 ?hask16 ?hend16
        case hB16 =>
          exact hb.size
        case hSt16 =>
          exact fun _ _ _ hb h => h.step hb
        case h016 =>
          exact hboth
        case hT16 =>
          intro vs
          simp only [fill, Act.put, List.setIfInBounds_toArray, List.set_cons_succ, List.set_cons_zero, Nat.reduceAdd]
          exact rfl
        case hask16 =>
          iterate 4 (refine askX_cons (fun vs w1 s hlo hhi hb hst hd => ?_) ?_; (focus (clear hlo hhi hst; simp only [DepX, Region.binds, SxI, List.getD_cons_zero, List.getD_cons_succ, Sx.av_val, Sx.av_valAt, Sx.av_fxAt, Sx.av_bsAt, Sx.av_ownAt, Sx.av_fxOwn, Sx.av_at, Sx.av_fx, and_true] at hd; go_simp; exact givx_pure rfl rfl)))
          refine askX_cons (fun vs w1 s hlo hhi hb hst hd => ?_) ?_
          · clear hlo hhi hst
            simp only [DepX, Region.binds, SxI, List.getD_cons_zero, List.getD_cons_succ, Sx.av_val, Sx.av_valAt, Sx.av_fxAt, Sx.av_bsAt, Sx.av_ownAt, Sx.av_fxOwn, Sx.av_at, Sx.av_fx, and_true] at hd
            have k0 := (hb.cell (p := ⟨b, off + k * 3, none⟩) hbB).trans c0
            have k1 := (hb.cell (p := ⟨b, off + k * 3 + 1, none⟩) hbB).trans c1
            have k2 := (hb.cell (p := ⟨b, off + k * 3 + 2, none⟩) hbB).trans c2
            go_simp
            exact givx_pure rfl rfl
          refine askX_cons (fun vs w1 s hlo hhi hb hst hd => ?_) ?_
          · obtain rfl : s = 0 := Nat.le_antisymm hhi hlo
            clear hlo hhi
            have hst : Both w1 w.heap.size g h d d := hst
            obtain ⟨q, p, dk, rk, hdis⟩ := hst
            simp only [DepX, Region.binds, SxI, List.getD_cons_zero, List.getD_cons_succ, Sx.av_val, Sx.av_valAt, Sx.av_fxAt, Sx.av_bsAt, Sx.av_ownAt, Sx.av_fxOwn, Sx.av_at, Sx.av_fx, and_true] at hd
            have hle := hb.size
            have hle2 := hbw.size
            go_simp
            refine givx_enter ((does_any _ g q d x.kind x.n Ac x.b _ cc _ dk (by omega) rfl hcc hcm ((hAc.below hb).more (by omega))).mono ?_)
            rintro e w2 ⟨q2, rfl, d2, t2, m2⟩
            rw [HDE.out] at d2 ⊢
            exact ⟨_, rfl, givx_fx rfl (t2.belowB dk.ge dk.qge (by omega)) (Both.left dk rk hdis d2 t2 m2) rfl⟩
          iterate 4 (refine askX_cons (fun vs w1 s hlo hhi hb hst hd => ?_) ?_; (focus (clear hlo hhi hst; simp only [DepX, Region.binds, SxI, List.getD_cons_zero, List.getD_cons_succ, Sx.av_val, Sx.av_valAt, Sx.av_fxAt, Sx.av_bsAt, Sx.av_ownAt, Sx.av_fxOwn, Sx.av_at, Sx.av_fx, and_true] at hd; go_simp; exact givx_pure rfl rfl)))
          refine askX_cons (fun vs w1 s hlo hhi hb hst hd => ?_) ?_
          · clear hlo hhi hst
            simp only [DepX, Region.binds, SxI, List.getD_cons_zero, List.getD_cons_succ, Sx.av_val, Sx.av_valAt, Sx.av_fxAt, Sx.av_bsAt, Sx.av_ownAt, Sx.av_fxOwn, Sx.av_at, Sx.av_fx, and_true] at hd
            have k0 := (hb.cell (p := ⟨b, off + k * 3, none⟩) hbB).trans c0
            have k1 := (hb.cell (p := ⟨b, off + k * 3 + 1, none⟩) hbB).trans c1
            have k2 := (hb.cell (p := ⟨b, off + k * 3 + 2, none⟩) hbB).trans c2
            go_simp
            exact givx_pure rfl rfl
          refine askX_cons (fun vs w1 s hlo hhi hb hst hd => ?_) ?_
          · obtain rfl : s = 1 := Nat.le_antisymm hhi hlo
            clear hlo hhi
            have hst : Both w1 w.heap.size g h d' d := hst
            obtain ⟨q, p, dk, rk, hdis⟩ := hst
            simp only [DepX, Region.binds, SxI, List.getD_cons_zero, List.getD_cons_succ, Sx.av_val, Sx.av_valAt, Sx.av_fxAt, Sx.av_bsAt, Sx.av_ownAt, Sx.av_fxOwn, Sx.av_at, Sx.av_fx, and_true] at hd
            have hle := hb.size
            have hle2 := hbw.size
            go_simp
            refine givx_enter ((means_any _ h p d x.kind x.n Ac x.b _ cc _ rk (by omega) rfl hcc hcm ((hAc.below hb).more (by omega))).mono ?_)
            rintro e w2 ⟨q2, rfl, d2, t2, m2⟩
            rw [HDE.out] at d2 ⊢
            exact ⟨_, rfl, givx_fx rfl (t2.belowB rk.ge rk.qge (by omega)) (Both.right dk rk hdis d2 t2 m2) rfl⟩
          iterate 3 (refine askX_cons (fun vs w1 s hlo hhi hb hst hd => ?_) ?_; (focus (clear hlo hhi hst; simp only [DepX, Region.binds, SxI, List.getD_cons_zero, List.getD_cons_succ, Sx.av_val, Sx.av_valAt, Sx.av_fxAt, Sx.av_bsAt, Sx.av_ownAt, Sx.av_fxOwn, Sx.av_at, Sx.av_fx, and_true] at hd; go_simp; exact givx_pure rfl rfl)))
          refine askX_cons (fun vs w1 s hlo hhi hb hst hd => ?_) ?_
          · obtain rfl : s = 2 := Nat.le_antisymm hhi hlo
            clear hlo hhi
            have hst : Both w1 w.heap.size g h d' d' := hst
            obtain ⟨q, p, dk, rk, hdis⟩ := hst
            simp only [DepX, Region.binds, SxI, List.getD_cons_zero, List.getD_cons_succ, Sx.av_val, Sx.av_valAt, Sx.av_fxAt, Sx.av_bsAt, Sx.av_ownAt, Sx.av_fxOwn, Sx.av_at, Sx.av_fx, and_true] at hd
            go_simp
            refine givx_enter ((bytes_any _ g q _ _ dk).mono ?_)
            rintro e w2 ⟨Q, n2, c2, rfl, o2, f2⟩
            exact ⟨_, rfl, givx_of rfl f2 ⟨Q, _, c2, rfl, o2.1, o2.cap.1, o2.cap.2, o2.bs⟩⟩
          refine askX_cons (fun vs w1 s hlo hhi hb hst hd => ?_) ?_
          · obtain rfl : s = 2 := Nat.le_antisymm hhi hlo
            clear hlo hhi
            have hst : Both w1 w.heap.size g h d' d' := hst
            obtain ⟨q, p, dk, rk, hdis⟩ := hst
            simp only [DepX, Region.binds, SxI, List.getD_cons_zero, List.getD_cons_succ, Sx.av_val, Sx.av_valAt, Sx.av_fxAt, Sx.av_bsAt, Sx.av_ownAt, Sx.av_fxOwn, Sx.av_at, Sx.av_fx, and_true] at hd
            obtain ⟨A1, n1, c1, h1, h2, h3, h4, h5⟩ := hd.1 (Nat.le_refl 2)
            replace hd := hd.2
            have h6 := conv (c := c1) h2 h5
            clear h2 h3 h4 h5
            go_simp
            exact givx_pure rfl rfl
          iterate 3 (refine askX_cons (fun vs w1 s hlo hhi hb hst hd => ?_) ?_; (focus (clear hlo hhi hst; simp only [DepX, Region.binds, SxI, List.getD_cons_zero, List.getD_cons_succ, Sx.av_val, Sx.av_valAt, Sx.av_fxAt, Sx.av_bsAt, Sx.av_ownAt, Sx.av_fxOwn, Sx.av_at, Sx.av_fx, and_true] at hd; go_simp; exact givx_pure rfl rfl)))
          refine askX_cons (fun vs w1 s hlo hhi hb hst hd => ?_) ?_
          · obtain rfl : s = 2 := Nat.le_antisymm hhi hlo
            clear hlo hhi
            have hst : Both w1 w.heap.size g h d' d' := hst
            obtain ⟨q, p, dk, rk, hdis⟩ := hst
            simp only [DepX, Region.binds, SxI, List.getD_cons_zero, List.getD_cons_succ, Sx.av_val, Sx.av_valAt, Sx.av_fxAt, Sx.av_bsAt, Sx.av_ownAt, Sx.av_fxOwn, Sx.av_at, Sx.av_fx, and_true] at hd
            obtain ⟨_, _, A2, n2, c2, _, hbk, ho⟩ := rk
            have c0 := hbk.cell 0
            simp only [dCells, List.getElem?_toArray, List.getElem?_cons_zero] at c0
            go_simp
            exact givx_pure rfl ⟨A2, n2, c2, rfl, ho.1, ho.cap.1, ho.cap.2, ho.bs⟩
          refine askX_cons (fun vs w1 s hlo hhi hb hst hd => ?_) ?_
          · obtain rfl : s = 2 := Nat.le_antisymm hhi hlo
            clear hlo hhi
            have hst : Both w1 w.heap.size g h d' d' := hst
            obtain ⟨q, p, dk, rk, hdis⟩ := hst
            simp only [DepX, Region.binds, SxI, List.getD_cons_zero, List.getD_cons_succ, Sx.av_val, Sx.av_valAt, Sx.av_fxAt, Sx.av_bsAt, Sx.av_ownAt, Sx.av_fxOwn, Sx.av_at, Sx.av_fx, and_true] at hd
            obtain ⟨A1, n1, c1, h1, h2, h3, h4, h5⟩ := hd.1 (Nat.le_refl 2)
            replace hd := hd.2
            have h6 := conv (c := c1) h2 h5
            clear h2 h3 h4 h5
            go_simp
            exact givx_pure rfl rfl
          iterate 4 (refine askX_cons (fun vs w1 s hlo hhi hb hst hd => ?_) ?_; (focus (clear hlo hhi hst; simp only [DepX, Region.binds, SxI, List.getD_cons_zero, List.getD_cons_succ, Sx.av_val, Sx.av_valAt, Sx.av_fxAt, Sx.av_bsAt, Sx.av_ownAt, Sx.av_fxOwn, Sx.av_at, Sx.av_fx, and_true] at hd; go_simp; exact givx_pure rfl rfl)))
          refine askX_cons (fun vs w1 s hlo hhi hb hst hd => ?_) ?_
          · obtain rfl : s = 2 := Nat.le_antisymm hhi hlo
            clear hlo hhi
            have hst : Both w1 w.heap.size g h d' d' := hst
            obtain ⟨q, p, dk, rk, hdis⟩ := hst
            simp only [DepX, Region.binds, SxI, List.getD_cons_zero, List.getD_cons_succ, Sx.av_val, Sx.av_valAt, Sx.av_fxAt, Sx.av_bsAt, Sx.av_ownAt, Sx.av_fxOwn, Sx.av_at, Sx.av_fx, and_true] at hd
            go_simp
            refine givx_enter ((synced_any _ g q _ _ dk).mono ?_)
            rintro e w2 ⟨rfl, rfl⟩
            exact ⟨_, rfl, givx_of rfl (Below.refl _ _) rfl⟩
          iterate 3 (refine askX_cons (fun vs w1 s hlo hhi hb hst hd => ?_) ?_; (focus (clear hlo hhi hst; simp only [DepX, Region.binds, SxI, List.getD_cons_zero, List.getD_cons_succ, Sx.av_val, Sx.av_valAt, Sx.av_fxAt, Sx.av_bsAt, Sx.av_ownAt, Sx.av_fxOwn, Sx.av_at, Sx.av_fx, and_true] at hd; go_simp; exact givx_pure rfl rfl)))
          refine askX_cons (fun vs w1 s hlo hhi hb hst hd => ?_) ?_
          · obtain rfl : s = 2 := Nat.le_antisymm hhi hlo
            clear hlo hhi
            have hst : Both w1 w.heap.size g h d' d' := hst
            obtain ⟨q, p, dk, rk, hdis⟩ := hst
            simp only [DepX, Region.binds, SxI, List.getD_cons_zero, List.getD_cons_succ, Sx.av_val, Sx.av_valAt, Sx.av_fxAt, Sx.av_bsAt, Sx.av_ownAt, Sx.av_fxOwn, Sx.av_at, Sx.av_fx, and_true] at hd
            obtain ⟨_, _, A2, n2, c2, _, hbk, ho⟩ := rk
            have c1 := hbk.cell 1
            simp only [dCells, List.getElem?_toArray, List.getElem?_cons_zero, List.getElem?_cons_succ] at c1
            go_simp
            exact givx_pure rfl rfl
          iterate 4 (refine askX_cons (fun vs w1 s hlo hhi hb hst hd => ?_) ?_; (focus (clear hlo hhi hst; simp only [DepX, Region.binds, SxI, List.getD_cons_zero, List.getD_cons_succ, Sx.av_val, Sx.av_valAt, Sx.av_fxAt, Sx.av_bsAt, Sx.av_ownAt, Sx.av_fxOwn, Sx.av_at, Sx.av_fx, and_true] at hd; go_simp; exact givx_pure rfl rfl)))
          refine askX_cons (fun vs w1 s hlo hhi hb hst hd => ?_) ?_
          · obtain rfl : s = 2 := Nat.le_antisymm hhi hlo
            clear hlo hhi
            have hst : Both w1 w.heap.size g h d' d' := hst
            obtain ⟨q, p, dk, rk, hdis⟩ := hst
            simp only [DepX, Region.binds, SxI, List.getD_cons_zero, List.getD_cons_succ, Sx.av_val, Sx.av_valAt, Sx.av_fxAt, Sx.av_bsAt, Sx.av_ownAt, Sx.av_fxOwn, Sx.av_at, Sx.av_fx, and_true] at hd
            go_simp
            refine givx_enter ((down_any _ g q _ _ dk).mono ?_)
            rintro e w2 ⟨rfl, rfl⟩
            exact ⟨_, rfl, givx_of rfl (Below.refl _ _) rfl⟩
          iterate 3 (refine askX_cons (fun vs w1 s hlo hhi hb hst hd => ?_) ?_; (focus (clear hlo hhi hst; simp only [DepX, Region.binds, SxI, List.getD_cons_zero, List.getD_cons_succ, Sx.av_val, Sx.av_valAt, Sx.av_fxAt, Sx.av_bsAt, Sx.av_ownAt, Sx.av_fxOwn, Sx.av_at, Sx.av_fx, and_true] at hd; go_simp; exact givx_pure rfl rfl)))
          refine askX_cons (fun vs w1 s hlo hhi hb hst hd => ?_) ?_
          · obtain rfl : s = 2 := Nat.le_antisymm hhi hlo
            clear hlo hhi
            have hst : Both w1 w.heap.size g h d' d' := hst
            obtain ⟨q, p, dk, rk, hdis⟩ := hst
            simp only [DepX, Region.binds, SxI, List.getD_cons_zero, List.getD_cons_succ, Sx.av_val, Sx.av_valAt, Sx.av_fxAt, Sx.av_bsAt, Sx.av_ownAt, Sx.av_fxOwn, Sx.av_at, Sx.av_fx, and_true] at hd
            obtain ⟨_, _, A2, n2, c2, _, hbk, ho⟩ := rk
            have c2 := hbk.cell 2
            simp only [dCells, List.getElem?_toArray, List.getElem?_cons_zero, List.getElem?_cons_succ] at c2
            go_simp
            exact givx_pure rfl rfl
          iterate 2 (refine askX_cons (fun vs w1 s hlo hhi hb hst hd => ?_) ?_; (focus (clear hlo hhi hst; simp only [DepX, Region.binds, SxI, List.getD_cons_zero, List.getD_cons_succ, Sx.av_val, Sx.av_valAt, Sx.av_fxAt, Sx.av_bsAt, Sx.av_ownAt, Sx.av_fxOwn, Sx.av_at, Sx.av_fx, and_true] at hd; go_simp; exact givx_pure rfl rfl)))
          exact askX_nil
        case hend16 =>
          intro vs w1 hb hst hd
          simp only [AllX, SxI, List.getD_cons_zero, List.getD_cons_succ, Sx.av_val, Sx.av_valAt, Sx.av_fxAt, Sx.av_bsAt, Sx.av_ownAt, Sx.av_fxOwn, Sx.av_at, Sx.av_fx, and_true, Nat.reduceAdd] at hd
          have hlast := hd.2.2.2.2.2.2.2.2.2.2.2.2.2.2.2.2.2.2.2.2.2.2.2.2.2.2.2.2.2.2.2.2.2.2.2.2.2.2.2.2.2
          clear hd
          have b5 := hbw.trans hb
          have hst : Both w1 w.heap.size g h d' d' := hst
          generalize vs 41 = v16 at *
          subst hlast
          clear hboth hb hbw c0 c1 c2 hAc
          go_wp2_with fail
          go_roundw
          case rel => exact ⟨k + 1, g, d', by go_num, rfl, by omega, by omega, hst, b5⟩
          case measure => simp [intOf]; omega
    · by_cases h1 : k < n
      · obtain rfl : k = 40 := by omega
        go_wp2_with fail
        go_ret
        exact ⟨rfl, hb⟩
      · obtain rfl : k = n := by omega
        go_wp2_with fail
        go_ret
        exact ⟨rfl, hb⟩
end Go.Proofs.Ytcgkoojegopfnaa
