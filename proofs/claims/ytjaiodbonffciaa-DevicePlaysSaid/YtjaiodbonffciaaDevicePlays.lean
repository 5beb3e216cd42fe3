/- The call of DevicePlays returns true for every input, and its arguments read behind it as they read before. -/
import Derived.Test.YtjaiodbonffciaaO
import Derived.Test.YtjaiodbonffciaaD12
set_option linter.unusedVariables false
set_option linter.unusedSimpArgs false
set_option linter.unusedSectionVars false
namespace Go.Proofs.Ytjaiodbonffciaa
open Go.ChangeShapes Go.WideShapes Go.ChangeAt Go.RowKit
open Sh
def R4 := RnS
def b4 : Int × List Op4 → Nat := fun _ => 0
theorem oa4 : OpensA Try.prog [3, 32] (Int × List Op4) R4 b4 := oanS
theorem law4 (W : World) (vs : List Value) (a : Int × List Op4) (h : R4 W vs a) : Calls Try.prog 4 vs.toArray W (Rt fun v W' => v = .bool true ∧ Below W.heap.size W W') := by
  obtain ⟨v, rfl, h2⟩ := h
  exact s4 _ _ _ _ (f4_s a.1 h2 fun w' h => ⟨rfl, h⟩)
theorem own : ownKnob Try.prog.godebug = none := by kernel_rfl
set_option maxRecDepth 100000 in
theorem lifted4 (os : Os) (started : os.Started) (H : Type) (enc : TypeId × Value → H) :
    ReturnsInHanded {} Try.checked os 4 .any (Rows.devicePlaysSpec.pre6 enc Try.prog Try.f4 Rows.devicePlaysRow.domain false) (Rows.devicePlaysSpec.post enc Try.prog Try.f4 false true false false) := by
  refine law_from (C := Try.checked) (tb := 4) (R := R4) (b := b4) own started (by kernel_rfl) Try.func4
    (ChangeSpec.witness6 (enc := enc) (C := Try.checked) false ⟨#[], #[.int .i64 0, .slice none 0 0], []⟩ 8 (by kernel_rfl) (by kernel_rfl) (by kernel_rfl) (by kernel_rfl))
    rfl (by kernel_rfl) (by kernel_rfl) rfl Try.underlying4 (fun ds hd => ?_) ?_ law4
  · match ds, hd with
    | [d0, d1], _ => exact ⟨rfl, rfl, rfl⟩
  · show OpensA Try.prog Try.f4.params.toList _ R4 b4
    rw [Try.params4]; exact oa4
theorem devicePlays_holds : Rows.DevicePlaysSaid :=
  OpenClaim.holds_of_wide 4 Try.f4 rfl rfl rfl rfl rfl rfl rfl ⟨rfl, rfl, rfl, rfl, rfl⟩ rfl rfl rfl rfl rfl (by kernel_rfl) Try.func4 (by kernel_rfl)
    (of_decide_eq_true (by kernel_rfl)) (by unfold Func.isWrapper; first | (rw [if_pos (by decide +kernel)]; kernel_rfl) | (rw [if_neg (by decide +kernel)]; exact ⟨rfl, rfl⟩))
    (fun os started H enc _ => lifted4 os started H enc)
#print axioms devicePlays_holds
end Go.Proofs.Ytjaiodbonffciaa
