/- The call of DeviceNil returns true for every input, and its arguments read behind it as they read before. -/
import Derived.Test.YtjaiodbonffciaaO
set_option linter.unusedVariables false
set_option linter.unusedSimpArgs false
set_option linter.unusedSectionVars false
namespace Go.Proofs.Ytjaiodbonffciaa
open Go.ChangeShapes Go.WideShapes Go.ChangeAt Go.RowKit
open Sh
def R8 := RO
def b8 : Op4 → Nat := fun _ => 0
theorem oa8 : OpensA Try.prog [40] Op4 R8 b8 := oaO
theorem law8 (W : World) (vs : List Value) (a : Op4) (h : R8 W vs a) : Calls Try.prog 8 vs.toArray W (Rt fun v W' => v = .bool true ∧ Below W.heap.size W W') := by
  obtain ⟨rfl, h2⟩ : vs = _ ∧ _ := h
  exact s8 _ _ _ (f8_s a fun w' h => ⟨rfl, h⟩)
theorem own : ownKnob Try.prog.godebug = none := by kernel_rfl
set_option maxRecDepth 100000 in
theorem lifted8 (os : Os) (started : os.Started) (H : Type) (enc : TypeId × Value → H) :
    ReturnsInHanded {} Try.checked os 8 .any (Rows.deviceNilSpec.pre6 enc Try.prog Try.f8 Rows.deviceNilRow.domain false) (Rows.deviceNilSpec.post enc Try.prog Try.f8 false true false false) := by
  refine law_from (C := Try.checked) (tb := 4) (R := R8) (b := b8) own started (by kernel_rfl) Try.func8
    (ChangeSpec.witness6 (enc := enc) (C := Try.checked) false ⟨#[], #[.agg #[.int .i64 0, .int .i64 0, .string ⟨#[]⟩, .slice none 0 0, .int .i64 0]], []⟩ 8 (by kernel_rfl) (by kernel_rfl) (by kernel_rfl) (by kernel_rfl))
    rfl (by kernel_rfl) (by kernel_rfl) rfl Try.underlying4 (fun ds hd => ?_) ?_ law8
  · match ds, hd with
    | [d0], _ => exact ⟨rfl, rfl, rfl⟩
  · show OpensA Try.prog Try.f8.params.toList _ R8 b8
    rw [Try.params8]; exact oa8
theorem deviceNil_holds : Rows.DeviceNilSaid :=
  OpenClaim.holds_of_wide 8 Try.f8 rfl rfl rfl rfl rfl rfl rfl ⟨rfl, rfl, rfl, rfl, rfl⟩ rfl rfl rfl rfl rfl (by kernel_rfl) Try.func8 (by kernel_rfl)
    (of_decide_eq_true (by kernel_rfl)) (by unfold Func.isWrapper; first | (rw [if_pos (by decide +kernel)]; kernel_rfl) | (rw [if_neg (by decide +kernel)]; exact ⟨rfl, rfl⟩))
    (fun os started H enc _ => lifted8 os started H enc)
#print axioms deviceNil_holds
end Go.Proofs.Ytjaiodbonffciaa
