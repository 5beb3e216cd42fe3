/- The call of DeviceSizes returns true for every input, and its arguments read behind it as they read before. -/
import Derived.Test.YtjaiodbonffciaaO
set_option linter.unusedVariables false
set_option linter.unusedSimpArgs false
set_option linter.unusedSectionVars false
namespace Go.Proofs.Ytjaiodbonffciaa
open Go.ChangeShapes Go.WideShapes Go.ChangeAt Go.RowKit
open Sh
def R3 := RI2
def b3 : Int × Int → Nat := fun _ => 0
theorem oa3 : OpensA Try.prog [3, 3] (Int × Int) R3 b3 := oaI2
theorem law3 (W : World) (vs : List Value) (a : Int × Int) (h : R3 W vs a) : Calls Try.prog 3 vs.toArray W (Rt fun v W' => v = .bool true ∧ Below W.heap.size W W') := by
  have h : vs = _ := h
  subst h
  exact s3 _ _ _ _ (f3_s a.1 a.2 fun w' h => ⟨rfl, h⟩)
theorem own : ownKnob Try.prog.godebug = none := by kernel_rfl
set_option maxRecDepth 100000 in
theorem lifted3 (os : Os) (started : os.Started) (H : Type) (enc : TypeId × Value → H) :
    ReturnsInHanded {} Try.checked os 3 .any (Rows.deviceSizesSpec.pre6 enc Try.prog Try.f3 Rows.deviceSizesRow.domain false) (Rows.deviceSizesSpec.post enc Try.prog Try.f3 false true false false) := by
  refine law_from (C := Try.checked) (tb := 4) (R := R3) (b := b3) own started (by kernel_rfl) Try.func3
    (ChangeSpec.witness6 (enc := enc) (C := Try.checked) false ⟨#[], #[.int .i64 0, .int .i64 0], []⟩ 8 (by kernel_rfl) (by kernel_rfl) (by kernel_rfl) (by kernel_rfl))
    rfl (by kernel_rfl) (by kernel_rfl) rfl Try.underlying4 (fun ds hd => ?_) ?_ law3
  · match ds, hd with
    | [d0, d1], _ => exact ⟨rfl, rfl, rfl⟩
  · show OpensA Try.prog Try.f3.params.toList _ R3 b3
    rw [Try.params3]; exact oa3
theorem deviceSizes_holds : Rows.DeviceSizesSaid :=
  OpenClaim.holds_of_wide 3 Try.f3 rfl rfl rfl rfl rfl rfl rfl ⟨rfl, rfl, rfl, rfl, rfl⟩ rfl rfl rfl rfl rfl (by kernel_rfl) Try.func3 (by kernel_rfl)
    (of_decide_eq_true (by kernel_rfl)) (by unfold Func.isWrapper; first | (rw [if_pos (by decide +kernel)]; kernel_rfl) | (rw [if_neg (by decide +kernel)]; exact ⟨rfl, rfl⟩))
    (fun os started H enc _ => lifted3 os started H enc)
#print axioms deviceSizes_holds
end Go.Proofs.Ytjaiodbonffciaa
