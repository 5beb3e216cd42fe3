/- The call of ClockCounts returns true for every input, and its arguments read behind it as they read before. -/
import Derived.Test.YtnckcgpmidgggaaRows
import Derived.Test.YtnckcgpmidgggaaC7
import Derived.Test.YtnckcgpmidgggaaSh11
import Derived.Lib.SmallJoins
import Derived.OpenShut
import Derived.ChangeMaps5
import Derived.Test.YtnckcgpmidgggaaSh14
namespace Go.Proofs.Ytnckcgpmidgggaa
open Go.ChangeShapes Go.WideShapes Go.ChangeAt Go.RowKit Go.Joins
open Sh
set_option linter.unusedVariables false
theorem cells23 : Try.prog.cellsOf 23 = 2 := by kernel_rfl
theorem own : ownKnob Try.prog.godebug = none := by kernel_rfl
theorem law5 (x0_0 x0_1 : Int) (x1_0 x1_1 x1_2 : Int)  (W : World) : Calls Try.prog 5 #[.agg #[.int .i64 x0_0, .int .i64 x0_1], .agg #[.int .i64 x1_0, .int .i64 x1_1, .int .i64 x1_2]] W (Rt fun v W' => v = .bool true ∧ Below W.heap.size W W') :=
  s5 _ _ _ _ (f5_s x0_0 x0_1 x1_0 x1_1 x1_2 W _ fun w' h => ⟨rfl, h⟩)
set_option maxRecDepth 100000 in
theorem lifted5 (os : Os) (started : os.Started) (H : Type) (enc : TypeId × Value → H) :
    ReturnsInHanded {} Try.checked os 5 .any (Rows.clockCountsSpec.pre6 enc Try.prog Try.f5 Rows.clockCountsRow.domain false) (Rows.clockCountsSpec.post enc Try.prog Try.f5 false true false false) := by
  refine law_lifted (C := Try.checked) (tb := 4) own started (by kernel_rfl) Try.func5
    (ChangeSpec.witness6 (enc := enc) (C := Try.checked) false ⟨#[], #[.agg #[.int .i64 0, .int .i64 0], .agg #[.int .i64 0, .int .i64 0, .int .i64 0]], []⟩ 8 (by kernel_rfl) (by kernel_rfl) (by kernel_rfl) (by kernel_rfl))
    rfl (by kernel_rfl) (by kernel_rfl) rfl Try.underlying4 (fun ds hd => ?_) ?_
  · match ds, hd with
    | [d0, d1], _ => exact ⟨rfl, rfl, rfl⟩
  · intro W base args ds p hval0 hA hz
    have hval : ∀ (j : Nat) t v, Try.f5.params[j]? = some t → args[j]? = some v → Value.okWide Try.prog W .any base t v := hval0
    rw [Try.params5] at hA hval hz
    obtain ⟨v0, vs0, d0, ds0, p0, q0, hargs, rfl, rfl, h0, u0⟩ := trodAll_cons hA
    obtain ⟨v1, vs1, d1, ds1, p1, q1, rfl, rfl, rfl, h1, u1⟩ := trodAll_cons u0
    obtain ⟨rfl, rfl, rfl⟩ := trodAll_nil u1
    obtain rfl : args = #[v0, v1] := by cases args; simp_all
    obtain ⟨c0_0, c0_1, y0_0, y0_1, m0, rfl, rfl, rfl, hy0_0, hy0_1⟩ := open_agg2 Try.underlying23 (by kernel_rfl) cells23 (hval 0 23 v0 rfl rfl) h0
    obtain ⟨x0_0, e0_0, rfl, w0_0⟩ := DataW.trod_int Try.underlying2 hy0_0
    obtain ⟨x0_1, e0_1, rfl, w0_1⟩ := DataW.trod_int Try.underlying2 hy0_1
    simp at e0_0 e0_1
    subst e0_0 e0_1
    have r0_0 := wf64 w0_0
    have r0_1 := wf64 w0_1
    obtain ⟨l1, hl1, rfl, hw1⟩ := Sh.open_ints_arr (n := 3) Try.underlying41 Try.underlying2 (by kernel_rfl) (by kernel_rfl) (hval 1 41 v1 rfl rfl) h1
    obtain ⟨x1_0, x1_1, x1_2, rfl⟩ : ∃ x1_0 x1_1 x1_2, l1 = [x1_0, x1_1, x1_2] := by
      match l1, hl1 with
      | [u0, u1, u2], _ => exact ⟨u0, u1, u2, rfl⟩
    exact law5 x0_0 x0_1 x1_0 x1_1 x1_2  W
theorem clockCounts_holds : Rows.ClockCountsSaid :=
  OpenClaim.holds_of_wide 5 Try.f5 rfl rfl rfl rfl rfl rfl rfl ⟨rfl, rfl, rfl, rfl, rfl⟩ rfl rfl rfl rfl rfl (by kernel_rfl) Try.func5 (by kernel_rfl)
    (of_decide_eq_true (by kernel_rfl)) (by unfold Func.isWrapper; first | (rw [if_pos (by decide +kernel)]; kernel_rfl) | (rw [if_neg (by decide +kernel)]; exact ⟨rfl, rfl⟩))
    (fun os started H enc _ => lifted5 os started H enc)
#print axioms clockCounts_holds
end Go.Proofs.Ytnckcgpmidgggaa
