/- The call of PackBack returns true for every input of bulk at most 1048576, and its argument reads behind it as it read before. -/
import Derived.Test.YtalekbaohdeakaaO
set_option linter.unusedVariables false
namespace Go.Proofs.Ytalekbaohdeakaa
open Go.ChangeShapes Go.WideShapes Go.ChangeAt Go.RowKit
open Sh
def R5 : World → List Value → List Thing → Prop := fun W vs x => ∃ v, vs = [v] ∧ rdS 4 tR W v x ∧ x.length * 40 ≤ reachBytes
def b5 : List Thing → Nat := fun l => (l.map tB).sum
theorem oa5 : OpensA Try.prog [34] (List Thing) R5 b5 := by
  refine OpensA.mono (oa_one (op_slice u34 (n := 4) (by kernel_rfl) op25) sc34 (fun w cs a h => ⟨_, h.choose_spec.1⟩) oa_nil) ?_
  rintro W vs ⟨l, ⟨⟩⟩ ⟨v2, r2, rfl, ⟨v', hv, hr, hl⟩, rfl⟩
  refine ⟨l, ⟨v2, rfl, ?_, ?_⟩, ?_⟩
  · rw [one_cell hv]; exact hr
  · have e : Try.prog.bytesOf 25 = 40 := by kernel_rfl
    rw [e] at hl
    exact hl
  · simp only [b5]; omega
theorem law5 (W : World) (vs : List Value) (a : List Thing) (h : R5 W vs a) (hb : b5 a ≤ 1048576) : Calls Try.prog 5 vs.toArray W (Rt fun v W' => v = .bool true ∧ Below W.heap.size W W') := by
  obtain ⟨v, rfl, h1, h2⟩ := h
  exact s5 _ _ _ (f5_s v a W _ h1 hb h2 fun w' h => ⟨rfl, h⟩)
theorem own : ownKnob Try.prog.godebug = none := by kernel_rfl
set_option maxRecDepth 100000 in
theorem lifted5 (os : Os) (started : os.Started) (H : Type) (enc : TypeId × Value → H) (F : Stop.Interp) :
    ReturnsInHanded {} Try.checked os 5 .any ((Rows.OpenSpec.upto Rows.packBackSpec).pre6 enc Try.prog Try.f5 Rows.packBackUptoRow.domain false) (((Rows.OpenSpec.upto Rows.packBackSpec).at F).post enc Try.prog Try.f5 false true false false) := by
  refine law_from_upto (C := Try.checked) (s := Rows.packBackSpec) (tb := 4) (R := R5) (b := b5) own started (by kernel_rfl) Try.func5
    (OpenSpec.witness (enc := enc) (C := Try.checked) (s := Rows.OpenSpec.upto Rows.packBackSpec) (k := Rows.uptoSmall) rfl false ⟨#[], #[.slice none 0 0], []⟩ 8 (by kernel_rfl) (by kernel_rfl) (by kernel_rfl)
      (x := ([.nil], [], [])) (by kernel_rfl) rfl (by kernel_rfl))
    rfl (by kernel_rfl) (by kernel_rfl) rfl Try.underlying4 (fun ds hd => ?_) ?_ law5
  · match ds, hd with
    | [d0], _ => exact ⟨rfl, rfl, rfl⟩
  · show OpensA Try.prog Try.f5.params.toList _ R5 b5
    rw [Try.params5]; exact oa5
theorem packBack_holds : Rows.PackBackUptoSaid :=
  OpenClaim.holds_of_cond 5 Try.f5 rfl rfl rfl rfl rfl rfl rfl ⟨rfl, rfl, rfl, rfl, rfl⟩ rfl rfl rfl rfl rfl (by kernel_rfl) Try.func5 (by kernel_rfl)
    (of_decide_eq_true (by kernel_rfl)) (by unfold Func.isWrapper; first | (rw [if_pos (by decide +kernel)]; kernel_rfl) | (rw [if_neg (by decide +kernel)]; exact ⟨rfl, rfl⟩))
    (fun os started H enc _ F => lifted5 os started H enc F)
#print axioms packBack_holds
end Go.Proofs.Ytalekbaohdeakaa
