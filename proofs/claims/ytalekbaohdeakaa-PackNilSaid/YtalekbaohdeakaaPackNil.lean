/- The call of PackNil returns true for every input, and its argument reads behind it as it read before. -/
import Derived.Test.YtalekbaohdeakaaO
set_option linter.unusedVariables false
namespace Go.Proofs.Ytalekbaohdeakaa
open Go.ChangeShapes Go.WideShapes Go.ChangeAt Go.RowKit
open Sh
def R8 : World → List Value → Int → Prop := fun W vs k => vs = [.int .i64 k]
def b8 : Int → Nat := fun _ => 0
theorem oa8 : OpensA Try.prog [3] Int R8 b8 := by
  refine OpensA.mono (oa_one (op_int u3) sc3 (fun w cs a h => ⟨_, h.1⟩) oa_nil) ?_
  rintro W vs ⟨k, ⟨⟩⟩ ⟨v, r, rfl, ⟨h, _⟩, rfl⟩
  exact ⟨k, by rw [one_cell h]; rfl, Nat.zero_le _⟩
theorem law8 (W : World) (vs : List Value) (a : Int) (h : R8 W vs a) : Calls Try.prog 8 vs.toArray W (Rt fun v W' => v = .bool true ∧ Below W.heap.size W W') := by
  subst h
  exact s8 _ _ _ (f8_s a W _ fun w' h => ⟨rfl, h⟩)
theorem own : ownKnob Try.prog.godebug = none := by kernel_rfl
set_option maxRecDepth 100000 in
theorem lifted8 (os : Os) (started : os.Started) (H : Type) (enc : TypeId × Value → H) :
    ReturnsInHanded {} Try.checked os 8 .any (Rows.packNilSpec.pre6 enc Try.prog Try.f8 Rows.packNilRow.domain false) (Rows.packNilSpec.post enc Try.prog Try.f8 false true false false) := by
  refine law_from (C := Try.checked) (tb := 4) (R := R8) (b := b8) own started (by kernel_rfl) Try.func8
    (ChangeSpec.witness6 (enc := enc) (C := Try.checked) false ⟨#[], #[.int .i64 0], []⟩ 8 (by kernel_rfl) (by kernel_rfl) (by kernel_rfl) (by kernel_rfl))
    rfl (by kernel_rfl) (by kernel_rfl) rfl Try.underlying4 (fun ds hd => ?_) ?_ law8
  · match ds, hd with
    | [d0], _ => exact ⟨rfl, rfl, rfl⟩
  · show OpensA Try.prog Try.f8.params.toList _ R8 b8
    rw [Try.params8]; exact oa8
theorem packNil_holds : Rows.PackNilSaid :=
  OpenClaim.holds_of_wide 8 Try.f8 rfl rfl rfl rfl rfl rfl rfl ⟨rfl, rfl, rfl, rfl, rfl⟩ rfl rfl rfl rfl rfl (by kernel_rfl) Try.func8 (by kernel_rfl)
    (of_decide_eq_true (by kernel_rfl)) (by unfold Func.isWrapper; first | (rw [if_pos (by decide +kernel)]; kernel_rfl) | (rw [if_neg (by decide +kernel)]; exact ⟨rfl, rfl⟩))
    (fun os started H enc _ => lifted8 os started H enc)
#print axioms packNil_holds
end Go.Proofs.Ytalekbaohdeakaa
