/- The call of DeviceTorn returns true for every input, and its arguments read behind it as they read before. -/
import Derived.Test.YtjaiodbonffciaaO
import Derived.Test.YtjaiodbonffciaaD14
set_option linter.unusedVariables false
set_option linter.unusedSimpArgs false
set_option linter.unusedSectionVars false
namespace Go.Proofs.Ytjaiodbonffciaa
open Go.ChangeShapes Go.WideShapes Go.ChangeAt Go.RowKit
open Sh
def R6 := RSO
def b6 : List Op4 × Op4 → Nat := fun _ => 0
theorem oa6 : OpensA Try.prog [32, 40] (List Op4 × Op4) R6 b6 := oaSO
theorem law6 (W : World) (vs : List Value) (a : List Op4 × Op4) (h : R6 W vs a) : Calls Try.prog 6 vs.toArray W (Rt fun v W' => v = .bool true ∧ Below W.heap.size W W') := by
  obtain ⟨v, rfl, h2, h3⟩ := h
  exact s6 _ _ _ _ (f6_s h2 h3 fun w' h => ⟨rfl, h⟩)
theorem own : ownKnob Try.prog.godebug = none := by kernel_rfl
set_option maxRecDepth 100000 in
theorem lifted6 (os : Os) (started : os.Started) (H : Type) (enc : TypeId × Value → H) :
    ReturnsInHanded {} Try.checked os 6 .any (Rows.deviceTornSpec.pre6 enc Try.prog Try.f6 Rows.deviceTornRow.domain false) (Rows.deviceTornSpec.post enc Try.prog Try.f6 false true false false) := by
  refine law_from (C := Try.checked) (tb := 4) (R := R6) (b := b6) own started (by kernel_rfl) Try.func6
    (ChangeSpec.witness6 (enc := enc) (C := Try.checked) false ⟨#[], #[.slice none 0 0, .agg #[.int .i64 0, .int .i64 0, .string ⟨#[]⟩, .slice none 0 0, .int .i64 0]], []⟩ 8 (by kernel_rfl) (by kernel_rfl) (by kernel_rfl) (by kernel_rfl))
    rfl (by kernel_rfl) (by kernel_rfl) rfl Try.underlying4 (fun ds hd => ?_) ?_ law6
  · match ds, hd with
    | [d0, d1], _ => exact ⟨rfl, rfl, rfl⟩
  · show OpensA Try.prog Try.f6.params.toList _ R6 b6
    rw [Try.params6]; exact oa6
theorem deviceTorn_holds : Rows.DeviceTornSaid :=
  OpenClaim.holds_of_wide 6 Try.f6 rfl rfl rfl rfl rfl rfl rfl ⟨rfl, rfl, rfl, rfl, rfl⟩ rfl rfl rfl rfl rfl (by kernel_rfl) Try.func6 (by kernel_rfl)
    (of_decide_eq_true (by kernel_rfl)) (by unfold Func.isWrapper; first | (rw [if_pos (by decide +kernel)]; kernel_rfl) | (rw [if_neg (by decide +kernel)]; exact ⟨rfl, rfl⟩))
    (fun os started H enc _ => lifted6 os started H enc)
#print axioms deviceTorn_holds
end Go.Proofs.Ytjaiodbonffciaa
