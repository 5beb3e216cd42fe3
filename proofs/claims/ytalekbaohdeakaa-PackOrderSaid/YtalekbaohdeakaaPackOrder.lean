/- The call of PackOrder returns true for every input, and its arguments read behind it as they read before. -/
import Derived.Test.YtalekbaohdeakaaO
set_option linter.unusedVariables false
namespace Go.Proofs.Ytalekbaohdeakaa
open Go.ChangeShapes Go.WideShapes Go.ChangeAt Go.RowKit
open Sh
def R4 : World → List Value → Nat × Nat × Int → Prop := fun W vs x => vs = [.int .u64 (x.1 : Int), .int .u64 (x.2.1 : Int), .int .i64 x.2.2] ∧ x.1 < 18446744073709551616 ∧ x.2.1 < 18446744073709551616
def b4 : Nat × Nat × Int → Nat := fun _ => 0
theorem oa4 : OpensA Try.prog [23, 23, 3] (Nat × Nat × Int) R4 b4 := by
  refine OpensA.mono (oa_one (op_int u23) sc23 (fun w cs a h => ⟨_, h.1⟩) (oa_one (op_int u23) sc23 (fun w cs a h => ⟨_, h.1⟩) (oa_one (op_int u3) sc3 (fun w cs a h => ⟨_, h.1⟩) oa_nil))) ?_
  rintro W vs ⟨x, y, k, ⟨⟩⟩ ⟨v, r, rfl, ⟨h, hx⟩, v1, r1, rfl, ⟨h1, hy⟩, v2, r2, rfl, ⟨h2, _⟩, rfl⟩
  have bx := wfu64 hx
  have byy := wfu64 hy
  simp only at bx byy
  refine ⟨(x.toNat, y.toNat, k), ⟨?_, by simp only; omega, by simp only; omega⟩, Nat.zero_le _⟩
  rw [one_cell h, one_cell h1, one_cell h2]
  simp only
  rw [Int.toNat_of_nonneg bx.1, Int.toNat_of_nonneg byy.1]
theorem law4 (W : World) (vs : List Value) (a : Nat × Nat × Int) (h : R4 W vs a) : Calls Try.prog 4 vs.toArray W (Rt fun v W' => v = .bool true ∧ Below W.heap.size W W') := by
  obtain ⟨rfl, h1, h2⟩ := h
  exact s4 _ _ _ _ _ (f4_s a.1 a.2.1 h1 h2 a.2.2 W _ fun w' h => ⟨rfl, h⟩)
theorem own : ownKnob Try.prog.godebug = none := by kernel_rfl
set_option maxRecDepth 100000 in
theorem lifted4 (os : Os) (started : os.Started) (H : Type) (enc : TypeId × Value → H) :
    ReturnsInHanded {} Try.checked os 4 .any (Rows.packOrderSpec.pre6 enc Try.prog Try.f4 Rows.packOrderRow.domain false) (Rows.packOrderSpec.post enc Try.prog Try.f4 false true false false) := by
  refine law_from (C := Try.checked) (tb := 4) (R := R4) (b := b4) own started (by kernel_rfl) Try.func4
    (ChangeSpec.witness6 (enc := enc) (C := Try.checked) false ⟨#[], #[.int .u64 0, .int .u64 0, .int .i64 0], []⟩ 8 (by kernel_rfl) (by kernel_rfl) (by kernel_rfl) (by kernel_rfl))
    rfl (by kernel_rfl) (by kernel_rfl) rfl Try.underlying4 (fun ds hd => ?_) ?_ law4
  · match ds, hd with
    | [d0, d1, d2], _ => exact ⟨rfl, rfl, rfl⟩
  · show OpensA Try.prog Try.f4.params.toList _ R4 b4
    rw [Try.params4]; exact oa4
theorem packOrder_holds : Rows.PackOrderSaid :=
  OpenClaim.holds_of_wide 4 Try.f4 rfl rfl rfl rfl rfl rfl rfl ⟨rfl, rfl, rfl, rfl, rfl⟩ rfl rfl rfl rfl rfl (by kernel_rfl) Try.func4 (by kernel_rfl)
    (of_decide_eq_true (by kernel_rfl)) (by unfold Func.isWrapper; first | (rw [if_pos (by decide +kernel)]; kernel_rfl) | (rw [if_neg (by decide +kernel)]; exact ⟨rfl, rfl⟩))
    (fun os started H enc _ => lifted4 os started H enc)
#print axioms packOrder_holds
end Go.Proofs.Ytalekbaohdeakaa
