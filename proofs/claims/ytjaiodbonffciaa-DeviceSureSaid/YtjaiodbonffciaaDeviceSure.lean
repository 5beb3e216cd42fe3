/- The call of DeviceSure returns true for every input, and its arguments read behind it as they read before. -/
import Derived.Test.YtjaiodbonffciaaO
import Derived.Test.YtjaiodbonffciaaD16
set_option linter.unusedVariables false
set_option linter.unusedSimpArgs false
set_option linter.unusedSectionVars false
namespace Go.Proofs.Ytjaiodbonffciaa
open Go.ChangeShapes Go.WideShapes Go.ChangeAt Go.RowKit
open Sh
def R5 := RSSO
def b5 : List Op4 × List Op4 × Op4 → Nat := fun _ => 0
theorem oa5 : OpensA Try.prog [32, 32, 40] (List Op4 × List Op4 × Op4) R5 b5 := oaSSO
theorem law5 (W : World) (vs : List Value) (a : List Op4 × List Op4 × Op4) (h : R5 W vs a) : Calls Try.prog 5 vs.toArray W (Rt fun v W' => v = .bool true ∧ Below W.heap.size W W') := by
  obtain ⟨v, u, rfl, h2, h3, h4⟩ := h
  exact s5 _ _ _ _ _ (f5_s h2 h3 h4 fun w' h => ⟨rfl, h⟩)
theorem own : ownKnob Try.prog.godebug = none := by kernel_rfl
set_option maxRecDepth 100000 in
theorem lifted5 (os : Os) (started : os.Started) (H : Type) (enc : TypeId × Value → H) :
    ReturnsInHanded {} Try.checked os 5 .any (Rows.deviceSureSpec.pre6 enc Try.prog Try.f5 Rows.deviceSureRow.domain false) (Rows.deviceSureSpec.post enc Try.prog Try.f5 false true false false) := by
  refine law_from (C := Try.checked) (tb := 4) (R := R5) (b := b5) own started (by kernel_rfl) Try.func5
    (ChangeSpec.witness6 (enc := enc) (C := Try.checked) false ⟨#[], #[.slice none 0 0, .slice none 0 0, .agg #[.int .i64 0, .int .i64 0, .string ⟨#[]⟩, .slice none 0 0, .int .i64 0]], []⟩ 8 (by kernel_rfl) (by kernel_rfl) (by kernel_rfl) (by kernel_rfl))
    rfl (by kernel_rfl) (by kernel_rfl) rfl Try.underlying4 (fun ds hd => ?_) ?_ law5
  · match ds, hd with
    | [d0, d1, d2], _ => exact ⟨rfl, rfl, rfl⟩
  · show OpensA Try.prog Try.f5.params.toList _ R5 b5
    rw [Try.params5]; exact oa5
theorem deviceSure_holds : Rows.DeviceSureSaid :=
  OpenClaim.holds_of_wide 5 Try.f5 rfl rfl rfl rfl rfl rfl rfl ⟨rfl, rfl, rfl, rfl, rfl⟩ rfl rfl rfl rfl rfl (by kernel_rfl) Try.func5 (by kernel_rfl)
    (of_decide_eq_true (by kernel_rfl)) (by unfold Func.isWrapper; first | (rw [if_pos (by decide +kernel)]; kernel_rfl) | (rw [if_neg (by decide +kernel)]; exact ⟨rfl, rfl⟩))
    (fun os started H enc _ => lifted5 os started H enc)
#print axioms deviceSure_holds
end Go.Proofs.Ytjaiodbonffciaa
