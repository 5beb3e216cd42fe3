/- The call of RelateParts returns true for every input, and its arguments read behind it as they read before. -/
import Derived.Test.YtlmiimojgledpaaO
import Derived.Test.YtlmiimojgledpaaR15
set_option linter.unusedVariables false
set_option linter.unusedSimpArgs false
set_option linter.unusedSectionVars false
namespace Go.Proofs.Ytlmiimojgledpaa
open Go.ChangeShapes Go.WideShapes Go.ChangeAt Go.RowKit
open Sh
def R5 : World → List Value → List Row × Int × Val → Prop := fun W vs x => ∃ v, vs = [v, .int .i64 x.2.1, .agg (encV x.2.2).toArray] ∧ rdL W v x.1 ∧ okV x.2.2 ∧ (∀ r ∈ x.1, r.length * 32 ≤ 140737488355328)
def b5 : List Row × Int × Val → Nat := fun x => 0
theorem oa5 : OpensA Try.prog [22, 3, 31] (List Row × Int × Val) R5 b5 := by
  refine OpensA.mono (oa_one op22 xsc22 (fun w cs a h => ⟨_, h.choose_spec.1⟩) (oa_one (op_int u3) xsc3 (fun w cs a h => ⟨_, h.1⟩) (oa_agg op31 xag31 oa_nil))) ?_
  rintro W vs ⟨l, c, x, ⟨⟩⟩ ⟨v, r, rfl, ⟨v', hv, hr, hz⟩, v2, r2, rfl, h2, cs, r3, rfl, h1, rfl⟩
  refine ⟨(l, c, x), ⟨v, by rw [agg_of h1.1, one_cell h2.1], by rw [one_cell hv]; exact hr, h1.2, hz⟩, Nat.zero_le _⟩
theorem law5 (W : World) (vs : List Value) (a : List Row × Int × Val) (h : R5 W vs a) : Calls Try.prog 5 vs.toArray W (Rt fun v W' => v = .bool true ∧ Below W.heap.size W W') := by
  obtain ⟨v, rfl, h1, h2, h3⟩ := h
  exact s5 _ _ _ _ _ (f5_s h1 h2 h3 fun w' h => ⟨rfl, h⟩)
theorem own : ownKnob Try.prog.godebug = none := by kernel_rfl
set_option maxRecDepth 100000 in
theorem lifted5 (os : Os) (started : os.Started) (H : Type) (enc : TypeId × Value → H) :
    ReturnsInHanded {} Try.checked os 5 .any (Rows.relatePartsSpec.pre6 enc Try.prog Try.f5 Rows.relatePartsRow.domain false) (Rows.relatePartsSpec.post enc Try.prog Try.f5 false true false false) := by
  refine law_from (C := Try.checked) (tb := 4) (R := R5) (b := b5) own started (by kernel_rfl) Try.func5
    (ChangeSpec.witness6 (enc := enc) (C := Try.checked) false ⟨#[], #[.slice none 0 0, .int .i64 0, .agg #[.int .i64 0, .int .i64 0, .string ⟨#[]⟩]], []⟩ 8 (by kernel_rfl) (by kernel_rfl) (by kernel_rfl) (by kernel_rfl))
    rfl (by kernel_rfl) (by kernel_rfl) rfl Try.underlying4 (fun ds hd => ?_) ?_ law5
  · match ds, hd with
    | [d0, d1, d2], _ => exact ⟨rfl, rfl, rfl⟩
  · show OpensA Try.prog Try.f5.params.toList _ R5 b5
    rw [Try.params5]; exact oa5
theorem relateParts_holds : Rows.RelatePartsSaid :=
  OpenClaim.holds_of_wide 5 Try.f5 rfl rfl rfl rfl rfl rfl rfl ⟨rfl, rfl, rfl, rfl, rfl⟩ rfl rfl rfl rfl rfl (by kernel_rfl) Try.func5 (by kernel_rfl)
    (of_decide_eq_true (by kernel_rfl)) (by unfold Func.isWrapper; first | (rw [if_pos (by decide +kernel)]; kernel_rfl) | (rw [if_neg (by decide +kernel)]; exact ⟨rfl, rfl⟩))
    (fun os started H enc _ => lifted5 os started H enc)
#print axioms relateParts_holds
end Go.Proofs.Ytlmiimojgledpaa
