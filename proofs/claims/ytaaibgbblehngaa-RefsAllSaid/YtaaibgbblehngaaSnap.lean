/- Snapshots in memory: rows of them that read, rows of the call's own; how such an argument is opened. -/
import Derived.Test.YtaaibgbblehngaaMem
import Derived.Test.YtaaibgbblehngaaProg
import Derived.Test.YtaaibgbblehngaaOpen
import Derived.Deep.Slices
import Derived.Deep.Fields
import Derived.ChangeSame
namespace Go.Proofs.Ytaaibgbblehngaa
open Go.ChangeShapes Go.WideShapes Go.ChangeAt Go.RowKit Go.Deep

/-- A snapshot. -/
structure Snp where
  id : Int
  set : Int
  chunks : List Int
  held : Bool
  tag : ByteArray

/-- The i-th of the rows of five cells is the snapshot x, R being what is known of its chunks' cells. -/
def SnAt (R : Option Addr → List Value → Prop) (vs : List Value) (i : Nat) (x : Snp) : Prop :=
  ∃ Ac cc, vs[i * 5]? = some (iv x.id) ∧ vs[i * 5 + 1]? = some (iv x.set) ∧ vs[i * 5 + 2]? = some (.slice Ac x.chunks.length cc) ∧ vs[i * 5 + 3]? = some (.bool x.held) ∧ vs[i * 5 + 4]? = some (.string x.tag) ∧
    x.chunks.length ≤ cc ∧ cc ≤ maxLen ∧ R Ac (x.chunks.map iv)
theorem SnAt.mono {R R' : Option Addr → List Value → Prop} {vs : List Value} {i : Nat} {x : Snp} (h : SnAt R vs i x) (hR : ∀ A l, R A l → R' A l) : SnAt R' vs i x := by
  obtain ⟨Ac, cc, h1, h2, h3, h4, h5, h6, h7, h8⟩ := h
  exact ⟨Ac, cc, h1, h2, h3, h4, h5, h6, h7, hR _ _ h8⟩

/-- A slice of snapshots that reads as L. -/
def Sn (w : World) (B : Nat) (A : Option Addr) (L : List Snp) : Prop := ∃ vs : List Value, vs.length = L.length * 5 ∧ Rd w B A vs ∧ ∀ i x, L[i]? = some x → SnAt (Rd w B) vs i x

section
variable {w w' : World} {B B' : Nat} {A : Option Addr} {L : List Snp}
theorem Sn.nil : Sn w B A [] := ⟨[], rfl, Rd.nil, fun i x h => by simp at h⟩
theorem Sn.keep (h : Sn w B A L) (hk : ∀ p : Addr, p.block < B → w'.cell? p = w.cell? p) : Sn w' B A L := by
  obtain ⟨vs, h1, h2, h3⟩ := h
  exact ⟨vs, h1, h2.keep hk, fun i x hx => (h3 i x hx).mono fun _ _ h => h.keep hk⟩
theorem Sn.more (h : Sn w B A L) (hB : B ≤ B') : Sn w B' A L := by
  obtain ⟨vs, h1, h2, h3⟩ := h
  exact ⟨vs, h1, h2.more hB, fun i x hx => (h3 i x hx).mono fun _ _ h => h.more hB⟩
theorem Sn.below (h : Sn w B A L) (hb : Below B w w') : Sn w' B A L := h.keep fun _ hp => hb.cell hp
theorem Sn.step (h : Sn w w.heap.size A L) (hb : Below w.heap.size w w') : Sn w' w'.heap.size A L := (h.below hb).more hb.size
/-- One of them, in its cells. -/
theorem Sn.at_ (h : Sn w B A L) {k : Nat} {x : Snp} (hx : L[k]? = some x) :
    ∃ b off Ac cc, A = some ⟨b, off, none⟩ ∧ b < B ∧ w.cell? ⟨b, off + k * 5, none⟩ = some (.int .i64 x.id) ∧ w.cell? ⟨b, off + k * 5 + 1, none⟩ = some (.int .i64 x.set) ∧ w.cell? ⟨b, off + k * 5 + 2, none⟩ = some (.slice Ac x.chunks.length cc) ∧
      w.cell? ⟨b, off + k * 5 + 3, none⟩ = some (.bool x.held) ∧ w.cell? ⟨b, off + k * 5 + 4, none⟩ = some (.string x.tag) ∧ x.chunks.length ≤ cc ∧ cc ≤ maxLen ∧ Is w B Ac x.chunks := by
  obtain ⟨vs, h1, h2, h3⟩ := h
  have hk : k < L.length := (List.getElem?_eq_some_iff.1 hx).1
  obtain ⟨b, off, rfl, hb, hc⟩ := h2 (by omega)
  obtain ⟨Ac, cc, e1, e2, e3, e4, e5, e6, e7, e8⟩ := h3 k x hx
  refine ⟨b, off, Ac, cc, rfl, hb, ?_, ?_, ?_, ?_, ?_, e6, e7, e8⟩
  · rw [hc _ (by omega), e1]; rfl
  · rw [Nat.add_assoc, hc _ (by omega), e2]; rfl
  · rw [Nat.add_assoc, hc _ (by omega), e3]
  · rw [Nat.add_assoc, hc _ (by omega), e4]
  · rw [Nat.add_assoc, hc _ (by omega), e5]
theorem Sn.take (h : Sn w B A L) (n : Nat) : Sn w B A (L.take n) := by
  obtain ⟨vs, h1, h2, h3⟩ := h
  refine ⟨vs.take (n * 5), by rw [List.length_take, List.length_take, h1, Nat.min_def, Nat.min_def]; split <;> split <;> omega, h2.take _, fun i x hx => ?_⟩
  rw [List.getElem?_take] at hx
  split at hx
  · rename_i hi
    obtain ⟨Ac, cc, e1, e2, e3, e4, e5, e6, e7, e8⟩ := h3 i x hx
    have t : ∀ j, j < 5 → (vs.take (n * 5))[i * 5 + j]? = vs[i * 5 + j]? := fun j hj => by rw [List.getElem?_take, if_pos (by omega)]
    exact ⟨Ac, cc, by rw [← e1]; exact t 0 (by omega), by rw [t 1 (by omega), e2], by rw [t 2 (by omega), e3], by rw [t 3 (by omega), e4], by rw [t 4 (by omega), e5], e6, e7, e8⟩
  · cases hx
end

abbrev TS : TypeId := 42
abbrev TI : TypeId := 3

/-- A row of snapshots of the call's own, in a block from 'base' on; what its chunks lead to lies below 'ib', or in blocks of ints. -/
def OwnS (w : World) (base ib : Nat) (A : Option Addr) (n c : Nat) (L : List Snp) : Prop :=
  L.length = n ∧ ∃ vs : List Value, Ov w base TS 5 A n c vs ∧ ∀ i x, L[i]? = some x → SnAt (Ed w ib TI) vs i x

theorem Ed.mono {w : World} {base base' : Nat} {E : TypeId} {A : Option Addr} {vs : List Value} (h : Ed w base E A vs) (hb : base ≤ base') : Ed w base' E A vs := fun hl => by
  obtain ⟨b, off, rfl, h1, h2, hc⟩ := h hl
  exact ⟨b, off, rfl, h1, h2.imp (fun h => by omega) id, hc⟩

section
variable {w w' : World} {base ib n c : Nat} {A : Option Addr} {L : List Snp}
theorem OwnS.nil_ (w : World) (base ib : Nat) : OwnS w base ib none 0 0 [] := ⟨rfl, [], Ov.nil_ _ _ _ _, fun i x h => by simp at h⟩
theorem OwnS.empty (hb : base ≤ w.heap.size) : OwnS (w.alloc (.cells #[] TS)) base ib (some ⟨w.heap.size, 0, none⟩) 0 0 [] := ⟨rfl, [], Ov.empty hb, fun i x h => by simp at h⟩
theorem OwnS.mono {base' ib' : Nat} (h : OwnS w base ib A n c L) (hb : base' ≤ base) (hi : ib ≤ ib') : OwnS w base' ib' A n c L := by
  obtain ⟨hn, vs, ho, hx⟩ := h
  exact ⟨hn, vs, ho.mono hb, fun i x hxi => (hx i x hxi).mono fun _ _ h => h.mono hi⟩
theorem OwnS.keptT {row : Option Nat} (h : OwnS w base ib A n c L) (hg : w.grownBy w' row) (hb : ∀ g, row = some g → ib ≤ g) (hR : NotT w row TS) (hE : NotT w row TI) : OwnS w' base ib A n c L := by
  obtain ⟨hn, vs, ho, hi⟩ := h
  exact ⟨hn, vs, ho.keptT hg hR, fun i x hx => (hi i x hx).mono fun _ _ h => h.kept hg fun g hg' => ⟨hb g hg', hE g hg'⟩⟩
theorem OwnS.step (h : OwnS w base ib A n c L) (hb : Below w.heap.size w w') : OwnS w' base ib A n c L := by
  obtain ⟨hn, vs, ho, hi⟩ := h
  exact ⟨hn, vs, ho.step hb, fun i x hx => (hi i x hx).mono fun _ _ h => h.step hb⟩
theorem OwnS.cap (h : OwnS w base ib A n c L) : n ≤ c ∧ c ≤ maxLen := by
  obtain ⟨_, vs, ho, _⟩ := h
  exact ho.cap
theorem OwnS.sn (h : OwnS w base ib A n c L) : Sn w w.heap.size A L := by
  obtain ⟨hn, vs, ho, hi⟩ := h
  exact ⟨vs, by rw [ho.len, hn], ho.rd, fun i x hx => (hi i x hx).mono fun _ _ h => h.rd⟩
theorem OwnS.below {w0 : World} (h : OwnS w w0.heap.size ib A n c L) (hb : Below w0.heap.size w0 w) (hg : w.grownBy w' (Value.slice A n c).ownBlock) : Below w0.heap.size w0 w' := by
  obtain ⟨_, vs, ho, _⟩ := h
  exact ho.below hb hg
theorem OwnS.notT (h : OwnS w base ib A n c L) {E : TypeId} (hne : TS ≠ E) : NotT w (Value.slice A n c).ownBlock E := by
  obtain ⟨_, vs, ho, _⟩ := h
  exact ho.notT hne
end

theorem infoSnap : (Try.prog.info? TS).map (fun i => (i.zero, i.size, i.bytes)) = some (some (.agg #[.int .i64 0, .int .i64 0, .slice none 0 0, .bool false, .string ⟨#[]⟩]), 5, 64) := by kernel_rfl

theorem ov_same {w : World} {base size n c : Nat} {E : TypeId} {A : Option Addr} {vs vs' : List Value} (hov : Ov w base E size A n c vs) (hov' : Ov w base E size A n c vs') : vs' = vs := by
  rcases hov.2 with ⟨hv, h0⟩ | ⟨g, cap, cur, hv, _, hg, _, _, _, ht⟩
  · have l1 := hov.1
    have l2 := hov'.1
    rw [h0] at l1 l2
    simp at l1 l2
    rw [l1, l2]
  · rcases hov'.2 with ⟨hv', h0'⟩ | ⟨g', cap', cur', hv', _, hg', _, _, _, ht'⟩
    · rw [hv'] at hv; simp at hv
    · rw [hv] at hv'
      simp at hv'
      obtain ⟨rfl, rfl⟩ := hv'
      rw [hg] at hg'
      injection hg' with hg'
      injection hg' with hg'
      rw [← ht, ← ht', hg']

/-- append of a row of snapshots onto one of the call's own. -/
theorem appSnaps {w : World} {ops : Array Oper} {rest : List Oper} {o : Oper} {a : Act} {Q : Exit → Act → World → Prop} (hgd : o.guard = none) (s x : Operand)
    (ho : o.op = .call { callee := .builtin .append, args := #[s, x], argTypes := #[35, 35] })
    {base ib n c m cx B : Nat} {A Ax : Option Addr} {L L2 : List Snp} (hs : a.eval s = .slice A n c) (hown : OwnS w base ib A n c L) (hx : a.eval x = .slice Ax m cx)
    (hm : L2.length = m) {vs2 : List Value} (hl2 : vs2.length = m * 5) (hr : Rd w B Ax vs2) (hin : ∀ i y, L2[i]? = some y → SnAt (Ed w ib TI) vs2 i y) (hone : ∀ u ∈ vs2, u.oneCell' = true)
    (hbytes : n + m ≤ 1000000000000) (hbase : base ≤ w.heap.size) (hib : ib ≤ base)
    (h : ∀ A' c' w', OwnS w' base ib A' (n + m) c' (L ++ L2) → w.grownBy w' (Value.slice A n c).ownBlock → wpList Try.prog ops Q rest (a.put o.dst (.slice A' (n + m) c')) w') :
    wpList Try.prog ops Q (o :: rest) a w := by
  obtain ⟨i, hi, hz, hsz, hby⟩ := info_parts infoSnap
  obtain ⟨hLn, vs, hov, hvi⟩ := id hown
  refine wpList_append_rd hgd s x _ ho TS i _ 5 64 Try.underlying35 hi hz hsz hby rfl (by omega) hs hov hx hl2 hr hone (by omega) (by omega) hbase (fun A' c' w' ho' hg' _ => h A' c' w' ?_ hg')
  have hnt := hov.notT (show TS ≠ TI by decide)
  have hbs : ∀ g, (Value.slice A n c).ownBlock = some g → base ≤ g := fun g hg => (hov.row g hg).1
  have hlen := hov.len
  refine ⟨by rw [List.length_append, hLn, hm], _, ho', fun j y hy => ?_⟩
  by_cases hj : j < L.length
  · rw [List.getElem?_append_left hj] at hy
    obtain ⟨Ac, cc, e1, e2, e3, e4, e5, e6, e7, e8⟩ := hvi j y hy
    have t : ∀ k, k < 5 → (vs ++ vs2)[j * 5 + k]? = vs[j * 5 + k]? := fun k hk => List.getElem?_append_left (by omega)
    exact ⟨Ac, cc, by rw [← e1]; exact t 0 (by omega), by rw [t 1 (by omega), e2], by rw [t 2 (by omega), e3], by rw [t 3 (by omega), e4], by rw [t 4 (by omega), e5], e6, e7, e8.kept hg' fun g hg => ⟨Nat.le_trans hib (hbs g hg), hnt g hg⟩⟩
  · rw [List.getElem?_append_right (by omega)] at hy
    obtain ⟨Ac, cc, e1, e2, e3, e4, e5, e6, e7, e8⟩ := hin _ y hy
    have t : ∀ k, k < 5 → (vs ++ vs2)[j * 5 + k]? = vs2[(j - L.length) * 5 + k]? := fun k hk => by
      rw [List.getElem?_append_right (by omega)]
      congr 1
      omega
    exact ⟨Ac, cc, by rw [← e1]; exact t 0 (by omega), by rw [t 1 (by omega), e2], by rw [t 2 (by omega), e3], by rw [t 3 (by omega), e4], by rw [t 4 (by omega), e5], e6, e7, e8.kept hg' fun g hg => ⟨Nat.le_trans hib (hbs g hg), hnt g hg⟩⟩

/-- append of one snapshot. -/
theorem appSnap {w : World} {ops : Array Oper} {rest : List Oper} {o : Oper} {a : Act} {Q : Exit → Act → World → Prop} (hgd : o.guard = none) (s x : Operand)
    (ho : o.op = .call { callee := .builtin .append, args := #[s, x], argTypes := #[35, 35] })
    {base ib n c m cc : Nat} {A Ac : Option Addr} {L : List Snp} (y : Snp) {id set : Int} {held : Bool} {tag : ByteArray} (hs : a.eval s = .slice A n c) (hown : OwnS w base ib A n c L) {g : Nat} (hx : a.eval x = .slice (some ⟨g, 0, none⟩) 1 1) (hgs : w.heap.size = g)
    (h1 : id = y.id) (h2 : set = y.set) (h3 : y.chunks.length = m) (h4 : held = y.held) (h5 : tag = y.tag) (hmc : m ≤ cc) (hcc : cc ≤ maxLen) (hc : Ed w ib TI Ac (y.chunks.map iv)) (hbytes : n ≤ 100000000000) (hbase : base ≤ w.heap.size) (hib : ib ≤ base)
    (h : ∀ A' c' w', OwnS w' base ib A' (n + 1) c' (L ++ [y]) → (w.alloc (.cells #[.int .i64 id, .int .i64 set, .slice Ac m cc, .bool held, .string tag] TS)).grownBy w' (Value.slice A n c).ownBlock → wpList Try.prog ops Q rest (a.put o.dst (.slice A' (n + 1) c')) w') :
    wpList Try.prog ops Q (o :: rest) a (w.alloc (.cells #[.int .i64 id, .int .i64 set, .slice Ac m cc, .bool held, .string tag] TS)) := by
  subst h1 h2 h4 h5 hgs
  have hb1 := (Below.refl w.heap.size w).alloc (Nat.le_refl _) (.cells #[.int .i64 y.id, .int .i64 y.set, .slice Ac m cc, .bool y.held, .string y.tag] TS)
  refine appSnaps hgd s x ho (L2 := [y]) (vs2 := [iv y.id, iv y.set, .slice Ac m cc, .bool y.held, .string y.tag]) hs (hown.step hb1) hx rfl rfl (Rd.new (Nat.lt_succ_self _) rfl) (fun i z hz => ?_) (fun u hu => ?_) (by omega) (Nat.le_trans hbase hb1.size) hib h
  · match i, hz with
    | 0, hz =>
      obtain rfl : y = z := by simpa using hz
      exact ⟨Ac, cc, rfl, rfl, by rw [h3]; rfl, rfl, rfl, by omega, hcc, hc.step hb1⟩
  · simp at hu
    rcases hu with rfl | rfl | rfl | rfl | rfl <;> rfl

theorem Sn.ed {w : World} {B base : Nat} {A : Option Addr} {L : List Snp} (h : Sn w B A L) (hB : B ≤ base) (hb : base ≤ w.heap.size) : ∃ vs : List Value, vs.length = L.length * 5 ∧ Rd w B A vs ∧ (∀ i x, L[i]? = some x → SnAt (Ed w base TI) vs i x) ∧ ∀ u ∈ vs, u.oneCell' = true := by
  obtain ⟨vs, h1, h2, h3⟩ := h
  refine ⟨vs, h1, h2, fun i x hx => (h3 i x hx).mono fun _ _ h => Ed.of_rd (h.more hB) hb, fun u hu => ?_⟩
  obtain ⟨j, hj, rfl⟩ := List.getElem_of_mem hu
  have hx : L[j / 5]? = some (L[j / 5]'(by omega)) := List.getElem?_eq_getElem (by omega)
  obtain ⟨Ac, cc, e1, e2, e3, e4, e5, _⟩ := h3 _ _ hx
  have hv : vs[j]? = some vs[j] := List.getElem?_eq_getElem hj
  have hcase : j = j / 5 * 5 ∨ j = j / 5 * 5 + 1 ∨ j = j / 5 * 5 + 2 ∨ j = j / 5 * 5 + 3 ∨ j = j / 5 * 5 + 4 := by omega
  rcases hcase with e | e | e | e | e
  · rw [← e, hv] at e1; injection e1 with e1; rw [e1]; rfl
  · rw [← e, hv] at e2; injection e2 with e2; rw [e2]; rfl
  · rw [← e, hv] at e3; injection e3 with e3; rw [e3]; rfl
  · rw [← e, hv] at e4; injection e4 with e4; rw [e4]; rfl
  · rw [← e, hv] at e5; injection e5 with e5; rw [e5]; rfl

end Go.Proofs.Ytaaibgbblehngaa
