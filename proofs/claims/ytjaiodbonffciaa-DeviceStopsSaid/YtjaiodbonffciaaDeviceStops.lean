/- The call of DeviceStops returns true for every input, and its arguments read behind it as they read before. -/
import Derived.Test.YtjaiodbonffciaaO
import Derived.Test.YtjaiodbonffciaaD15
set_option linter.unusedVariables false
set_option linter.unusedSimpArgs false
set_option linter.unusedSectionVars false
namespace Go.Proofs.Ytjaiodbonffciaa
open Go.ChangeShapes Go.WideShapes Go.ChangeAt Go.RowKit
open Sh
def R7 := RSn
def b7 : List Op4 × Int → Nat := fun _ => 0
theorem oa7 : OpensA Try.prog [32, 3] (List Op4 × Int) R7 b7 := oaSn
theorem law7 (W : World) (vs : List Value) (a : List Op4 × Int) (h : R7 W vs a) : Calls Try.prog 7 vs.toArray W (Rt fun v W' => v = .bool true ∧ Below W.heap.size W W') := by
  obtain ⟨v, rfl, h2⟩ := h
  exact s7 _ _ _ _ (f7_s a.2 h2 fun w' h => ⟨rfl, h⟩)
theorem own : ownKnob Try.prog.godebug = none := by kernel_rfl
set_option maxRecDepth 100000 in
theorem lifted7 (os : Os) (started : os.Started) (H : Type) (enc : TypeId × Value → H) :
    ReturnsInHanded {} Try.checked os 7 .any (Rows.deviceStopsSpec.pre6 enc Try.prog Try.f7 Rows.deviceStopsRow.domain false) (Rows.deviceStopsSpec.post enc Try.prog Try.f7 false true false false) := by
  refine law_from (C := Try.checked) (tb := 4) (R := R7) (b := b7) own started (by kernel_rfl) Try.func7
    (ChangeSpec.witness6 (enc := enc) (C := Try.checked) false ⟨#[], #[.slice none 0 0, .int .i64 0], []⟩ 8 (by kernel_rfl) (by kernel_rfl) (by kernel_rfl) (by kernel_rfl))
    rfl (by kernel_rfl) (by kernel_rfl) rfl Try.underlying4 (fun ds hd => ?_) ?_ law7
  · match ds, hd with
    | [d0, d1], _ => exact ⟨rfl, rfl, rfl⟩
  · show OpensA Try.prog Try.f7.params.toList _ R7 b7
    rw [Try.params7]; exact oa7
theorem deviceStops_holds : Rows.DeviceStopsSaid :=
  OpenClaim.holds_of_wide 7 Try.f7 rfl rfl rfl rfl rfl rfl rfl ⟨rfl, rfl, rfl, rfl, rfl⟩ rfl rfl rfl rfl rfl (by kernel_rfl) Try.func7 (by kernel_rfl)
    (of_decide_eq_true (by kernel_rfl)) (by unfold Func.isWrapper; first | (rw [if_pos (by decide +kernel)]; kernel_rfl) | (rw [if_neg (by decide +kernel)]; exact ⟨rfl, rfl⟩))
    (fun os started H enc _ => lifted7 os started H enc)
#print axioms deviceStops_holds
end Go.Proofs.Ytjaiodbonffciaa
