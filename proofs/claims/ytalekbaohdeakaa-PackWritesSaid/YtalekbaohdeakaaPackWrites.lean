/- The call of PackWrites returns true for every input, and its arguments read behind it as they read before. -/
import Derived.Test.YtalekbaohdeakaaO
set_option linter.unusedVariables false
namespace Go.Proofs.Ytalekbaohdeakaa
open Go.ChangeShapes Go.WideShapes Go.ChangeAt Go.RowKit
open Sh
def R3 : World → List Value → List Int × Thing → Prop := fun W vs x => ∃ v, vs = [v, .agg x.2.cells.toArray] ∧ rdP .u8 W v x.1 ∧ x.1.length ≤ reachBytes ∧ (∀ y ∈ x.1, 0 ≤ y ∧ y ≤ 255) ∧ x.2.ok
def b3 : List Int × Thing → Nat := fun _ => 0
theorem oa3 : OpensA Try.prog [22, 25] (List Int × Thing) R3 b3 := by
  refine OpensA.mono (oa_one (op_slice u22 (n := 1) (by kernel_rfl) (op_int u5)) sc22 (fun w cs a h => ⟨_, h.choose_spec.1⟩) (oa_agg op25 ag25 oa_nil)) ?_
  rintro W vs ⟨l, t, ⟨⟩⟩ ⟨v, r, rfl, ⟨v', hv, hr, hl⟩, cs, r2, rfl, ⟨h2, ht⟩, rfl⟩
  refine ⟨(l, t), ⟨v, ?_, ?_, ?_, ?_, ht⟩, Nat.zero_le _⟩
  · have : cs = t.cells.toArray := by rw [← h2]
    rw [this]
  · rw [one_cell hv]; exact ints_of (n := 1) hr
  · have e : Try.prog.bytesOf 5 = 1 := by kernel_rfl
    rw [e, Nat.mul_one] at hl
    exact hl
  · exact fun y hy => wfu8 (ints_bd hr y hy)
theorem law3 (W : World) (vs : List Value) (a : List Int × Thing) (h : R3 W vs a) : Calls Try.prog 3 vs.toArray W (Rt fun v W' => v = .bool true ∧ Below W.heap.size W W') := by
  obtain ⟨v, rfl, h1, h2, h3, h4⟩ := h
  exact s3 _ _ _ _ (f3_s v a.1 a.2 W _ h1 h2 h3 h4 fun w' h => ⟨rfl, h⟩)
theorem own : ownKnob Try.prog.godebug = none := by kernel_rfl
set_option maxRecDepth 100000 in
theorem lifted3 (os : Os) (started : os.Started) (H : Type) (enc : TypeId × Value → H) :
    ReturnsInHanded {} Try.checked os 3 .any (Rows.packWritesSpec.pre6 enc Try.prog Try.f3 Rows.packWritesRow.domain false) (Rows.packWritesSpec.post enc Try.prog Try.f3 false true false false) := by
  refine law_from (C := Try.checked) (tb := 4) (R := R3) (b := b3) own started (by kernel_rfl) Try.func3
    (ChangeSpec.witness6 (enc := enc) (C := Try.checked) false ⟨#[], #[.slice none 0 0, .agg #[.int .i64 0, .int .i64 0, .int .u64 0, .string ByteArray.empty]], []⟩ 8 (by kernel_rfl) (by kernel_rfl) (by kernel_rfl) (by kernel_rfl))
    rfl (by kernel_rfl) (by kernel_rfl) rfl Try.underlying4 (fun ds hd => ?_) ?_ law3
  · match ds, hd with
    | [d0, d1], _ => exact ⟨rfl, rfl, rfl⟩
  · show OpensA Try.prog Try.f3.params.toList _ R3 b3
    rw [Try.params3]; exact oa3
theorem packWrites_holds : Rows.PackWritesSaid :=
  OpenClaim.holds_of_wide 3 Try.f3 rfl rfl rfl rfl rfl rfl rfl ⟨rfl, rfl, rfl, rfl, rfl⟩ rfl rfl rfl rfl rfl (by kernel_rfl) Try.func3 (by kernel_rfl)
    (of_decide_eq_true (by kernel_rfl)) (by unfold Func.isWrapper; first | (rw [if_pos (by decide +kernel)]; kernel_rfl) | (rw [if_neg (by decide +kernel)]; exact ⟨rfl, rfl⟩))
    (fun os started H enc _ => lifted3 os started H enc)
#print axioms packWrites_holds
end Go.Proofs.Ytalekbaohdeakaa
