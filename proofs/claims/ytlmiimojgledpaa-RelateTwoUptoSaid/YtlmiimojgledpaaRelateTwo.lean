/- The call of RelateTwo returns true for every input of bulk at most 1048576, and its arguments read behind it as they read before. -/
import Derived.Test.YtlmiimojgledpaaO
import Derived.Test.YtlmiimojgledpaaR10
set_option linter.unusedVariables false
set_option linter.unusedSimpArgs false
set_option linter.unusedSectionVars false
namespace Go.Proofs.Ytlmiimojgledpaa
open Go.ChangeShapes Go.WideShapes Go.ChangeAt Go.RowKit
open Sh
def R4 := RJ
def b4 := bJ
theorem oa4 : OpensA Try.prog [22, 22, 23] (List Row × List Row × (Int × Int)) R4 b4 := oaJ
theorem law4 (W : World) (vs : List Value) (a : List Row × List Row × (Int × Int)) (h : R4 W vs a) (hb : b4 a ≤ 1048576) : Calls Try.prog 4 vs.toArray W (Rt fun v W' => v = .bool true ∧ Below W.heap.size W W') := by
  obtain ⟨v, u, rfl, h1, h2, _, _⟩ := h
  have hb : (a.1.map rB).sum + (a.2.1.map rB).sum ≤ 1048576 := hb
  exact s4 _ _ _ _ _ (f4_s h1 h2 (fun s hs => by have := sum_mem hs; omega) (fun s hs => by have := sum_mem hs; omega) fun w' h => ⟨rfl, h⟩)
theorem own : ownKnob Try.prog.godebug = none := by kernel_rfl
set_option maxRecDepth 100000 in
theorem lifted4 (os : Os) (started : os.Started) (H : Type) (enc : TypeId × Value → H) (F : Stop.Interp) :
    ReturnsInHanded {} Try.checked os 4 .any ((Rows.OpenSpec.upto Rows.relateTwoSpec).pre6 enc Try.prog Try.f4 Rows.relateTwoUptoRow.domain false) (((Rows.OpenSpec.upto Rows.relateTwoSpec).at F).post enc Try.prog Try.f4 false true false false) := by
  refine law_from_upto (C := Try.checked) (s := Rows.relateTwoSpec) (tb := 4) (R := R4) (b := b4) own started (by kernel_rfl) Try.func4
    (OpenSpec.witness (enc := enc) (C := Try.checked) (s := Rows.OpenSpec.upto Rows.relateTwoSpec) (k := Rows.uptoSmall) rfl false ⟨#[], #[.slice none 0 0, .slice none 0 0, .agg #[.int .i64 0, .int .i64 0]], []⟩ 8 (by kernel_rfl) (by kernel_rfl) (by kernel_rfl)
      (x := ([.nil, .nil, .agg [.lit (.int .i64 0), .lit (.int .i64 0)]], [], [])) (by kernel_rfl) rfl (by kernel_rfl))
    rfl (by kernel_rfl) (by kernel_rfl) rfl Try.underlying4 (fun ds hd => ?_) ?_ law4
  · match ds, hd with
    | [d0, d1, d2], _ => exact ⟨rfl, rfl, rfl⟩
  · show OpensA Try.prog Try.f4.params.toList _ R4 b4
    rw [Try.params4]; exact oa4
theorem relateTwo_holds : Rows.RelateTwoUptoSaid :=
  OpenClaim.holds_of_cond 4 Try.f4 rfl rfl rfl rfl rfl rfl rfl ⟨rfl, rfl, rfl, rfl, rfl⟩ rfl rfl rfl rfl rfl (by kernel_rfl) Try.func4 (by kernel_rfl)
    (of_decide_eq_true (by kernel_rfl)) (by unfold Func.isWrapper; first | (rw [if_pos (by decide +kernel)]; kernel_rfl) | (rw [if_neg (by decide +kernel)]; exact ⟨rfl, rfl⟩))
    (fun os started H enc _ F => lifted4 os started H enc F)
#print axioms relateTwo_holds
end Go.Proofs.Ytlmiimojgledpaa
