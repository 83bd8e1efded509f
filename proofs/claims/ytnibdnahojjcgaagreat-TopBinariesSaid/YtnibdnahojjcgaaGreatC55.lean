/- TopBinaries, the given law of coracletop, holds whatever script of events it is handed: no conditions. -/
import Derived.Test.YtnibdnahojjcgaaGreatRows
import Derived.Test.YtnibdnahojjcgaaGreatC54
namespace Go.Proofs.YtnibdnahojjcgaaGreat.topBinaries
set_option linter.all false
set_option maxRecDepth 100000
set_option maxHeartbeats 0
open Go.RowKit
section
open Go.ChangeShapes Go.WideShapes Go.ChangeAt Go.RowKit
open Go.ChangeMaps (open_string shut_string)
def own : ownKnob Tryz.prog.godebug = none := by kernel_rfl
def laidOut : laidOutB Tryz.prog = true := by kernel_rfl
def lifted (os : Os) (started : os.Started) (H : Type) (enc : TypeId × Value -> H) :
    ReturnsInHanded {} Tryz.checked os 4 .any (Rows.topBinariesSpec.pre6 enc Tryz.prog Tryz.f4 Rows.topBinariesRow.domain false) (Rows.topBinariesSpec.post enc Tryz.prog Tryz.f4 false true false false) := by
  refine returnsInHanded_of_change (C := Tryz.checked) own started qK Tryz.func4
    (ChangeSpec.witness6 (enc := enc) (C := Tryz.checked) false ⟨#[], #[.int .u8 0, .slice none 0 0], []⟩ 8 qK qK qK qK) ?_
  intro W base args ds gs before hval0 hW hcnd _;have hval : ∀ (j : Nat) t v, Tryz.f4.params[j]? = some t -> args[j]? = some v -> Value.okWide Tryz.prog W .any base t v := hval0;have hW' := hW;obtain ⟨p, q, hA0, hV, rfl, hfz, hnd⟩ := hW;have hA : DataW.TrodAll enc Tryz.prog W 0 (λ_ => true) true Tryz.f4.params.toList args.toList ds p := hA0;rw [Tryz.params4] at hA hval;obtain ⟨v0, vs0, d0, ds0, p0, q0, hargs, rfl, rfl, h0, r0⟩ := trodAll_cons hA;obtain ⟨v1, vs1, d1, ds1, p1, q1, rfl, rfl, rfl, h1, r1⟩ := trodAll_cons r0;obtain ⟨rfl, rfl, rfl⟩ := trodAll_nil r1;obtain rfl : args = #[v0, v1] := by cases args; simp_all
  obtain ⟨rfl, rfl⟩ := trodVars_none hV;obtain ⟨a0, rfl, rfl, rfl, w0⟩ := open_int Tryz.underlying5 (hval 0 5 v0 rfl rfl) h0;obtain ⟨a1, len1, cap1, rfl⟩ := okWide_slice Tryz.underlying22 (hval 1 22 v1 rfl rfl);have k1 := h1;have L8 : ∀ x ∈ p1, x.block < W.heap.size := by obtain ⟨m, hm⟩ := k1; exact DataW.trod_lt m _ _ _ hm
  obtain ⟨L1, w1, x1⟩ := akR h1;clear hA0 hval0;refine (axU W a0 (bounds_u8 w0) a1 len1 cap1 L1 w1 x1).mono λe W' ⟨he, bel⟩ => ?_
  subst he;exact ⟨_, rfl, _, _, _, [], _, [], hW', trodAll_mk1 (shut_bool Tryz.underlying4 _), (trodAll_cons_mk (shut_int Tryz.underlying5 w0) (trodAll_cons_mk (Below.trod laidOut qK (fU qK) k1 bel L8) trodAll_mk0)), rfl, bel.frame _, λh => by cases h⟩
def auP : Tryz.pinned.checked.prog.funcNamed Rows.topBinariesRow.func = some 4 := by kernel_rfl
def auO : joinedFacts Tryz.pinned.checked.prog 4 Tryz.f4 Rows.topBinariesSpec Rows.topBinariesRow = true := by kernel_rfl
def auN : Tryz.f4.isInstance Tryz.pinned.checked.prog Rows.topBinariesRow.origin Rows.topBinariesRow.targs := fU qK
def auM : Tryz.f4.isWrapper Tryz.pinned.checked.prog Rows.topBinariesRow.wrapper Rows.topBinariesRow.mainSum := by unfold Func.isWrapper; first | (rw [if_pos (by decide +kernel)]; kernel_rfl) | (rw [if_neg (by decide +kernel)]; exact ⟨rfl, rfl⟩)
def over : Rows.topBinariesRow.holds Tryz.pinned (OpenSpec.ofChange Rows.topBinariesSpec) :=
  OpenClaim.holds_of_wide 4 Tryz.f4 rfl rfl rfl rfl rfl rfl rfl ⟨rfl, rfl, rfl, rfl, rfl⟩ rfl rfl rfl rfl rfl auP Tryz.func4 auO auN auM
    (λos started H enc _ => lifted os started H enc)
theorem proved : Rows.TopBinariesSaid := over
end
end Go.Proofs.YtnibdnahojjcgaaGreat.topBinaries
