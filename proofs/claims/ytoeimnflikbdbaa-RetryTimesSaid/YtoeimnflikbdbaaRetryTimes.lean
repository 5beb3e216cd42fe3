/- The call of RetryTimes returns true for every plan and any two times, and its arguments read behind it as they read before. -/
import Derived.Test.YtoeimnflikbdbaaRows
import Derived.Test.YtoeimnflikbdbaaM3
import Derived.Test.YtoeimnflikbdbaaSh11
import Derived.Lib.SmallJoins
import Derived.OpenShut
namespace Go.Proofs.Ytoeimnflikbdbaa
open Go.ChangeShapes Go.WideShapes Go.ChangeAt Go.RowKit Go.Joins
open Sh
set_option linter.unusedVariables false
theorem cells23 : Try.prog.cellsOf 23 = 4 := by kernel_rfl
theorem own : ownKnob Try.prog.godebug = none := by kernel_rfl
theorem law3 (F M Fa T a now : Int) (W : World) : Calls Try.prog 3 #[planV F M Fa T, .int .i64 a, .int .i64 now] W (Rt fun v W' => v = .bool true ∧ Below W.heap.size W W') :=
  s3 _ _ _ _ _ (f3_s F M Fa T a now W _ fun w' h => ⟨rfl, h⟩)
set_option maxRecDepth 100000 in
theorem lifted3 (os : Os) (started : os.Started) (H : Type) (enc : TypeId × Value → H) :
    ReturnsInHanded {} Try.checked os 3 .any (Rows.retryTimesSpec.pre6 enc Try.prog Try.f3 Rows.retryTimesRow.domain false) (Rows.retryTimesSpec.post enc Try.prog Try.f3 false true false false) := by
  refine law_lifted (C := Try.checked) (tb := 4) own started (by kernel_rfl) Try.func3
    (ChangeSpec.witness6 (enc := enc) (C := Try.checked) false ⟨#[], #[planV 0 0 0 0, .int .i64 0, .int .i64 0], []⟩ 8 (by kernel_rfl) (by kernel_rfl) (by kernel_rfl) (by kernel_rfl))
    rfl (by kernel_rfl) (by kernel_rfl) rfl Try.underlying4 (fun ds hd => ?_) ?_
  · match ds, hd with
    | [d0, d1, d2], _ => exact ⟨rfl, rfl, rfl⟩
  · intro W base args ds p hval0 hA hz
    have hval : ∀ (j : Nat) t v, Try.f3.params[j]? = some t → args[j]? = some v → Value.okWide Try.prog W .any base t v := hval0
    rw [Try.params3] at hA hval
    obtain ⟨v0, vs0, d0, ds0, p0, q0, hargs, rfl, rfl, h0, r0⟩ := trodAll_cons hA
    obtain ⟨v1, vs1, d1, ds1, p1, q1, rfl, rfl, rfl, h1, r1⟩ := trodAll_cons r0
    obtain ⟨v2, vs2, d2, ds2, p2, q2, rfl, rfl, rfl, h2, r2⟩ := trodAll_cons r1
    obtain ⟨rfl, rfl, rfl⟩ := trodAll_nil r2
    obtain rfl : args = #[v0, v1, v2] := by cases args; simp_all
    obtain ⟨c0, c1, c2, c3, y0, y1, y2, y3, m, rfl, rfl, rfl, hy0, hy1, hy2, hy3⟩ := open_agg4 Try.underlying23 (by kernel_rfl) cells23 (hval 0 23 v0 rfl rfl) h0
    obtain ⟨F, e0, rfl, w0⟩ := DataW.trod_int Try.underlying2 hy0
    obtain ⟨M, e1, rfl, w1⟩ := DataW.trod_int Try.underlying2 hy1
    obtain ⟨Fa, e2, rfl, w2⟩ := DataW.trod_int Try.underlying3 hy2
    obtain ⟨T, e3, rfl, w3⟩ := DataW.trod_int Try.underlying3 hy3
    simp at e0 e1 e2 e3
    subst e0 e1 e2 e3
    obtain ⟨a, rfl, rfl, rfl, wa⟩ := open_int Try.underlying2 (hval 1 2 v1 rfl rfl) h1
    obtain ⟨now, rfl, rfl, rfl, wn⟩ := open_int Try.underlying2 (hval 2 2 v2 rfl rfl) h2
    exact law3 F M Fa T a now W
theorem retryTimes_holds : Rows.RetryTimesSaid :=
  OpenClaim.holds_of_wide 3 Try.f3 rfl rfl rfl rfl rfl rfl rfl ⟨rfl, rfl, rfl, rfl, rfl⟩ rfl rfl rfl rfl rfl (by kernel_rfl) Try.func3 (by kernel_rfl)
    (of_decide_eq_true (by kernel_rfl)) (by unfold Func.isWrapper; first | (rw [if_pos (by decide +kernel)]; kernel_rfl) | (rw [if_neg (by decide +kernel)]; exact ⟨rfl, rfl⟩))
    (fun os started H enc _ => lifted3 os started H enc)
#print axioms retryTimes_holds
end Go.Proofs.Ytoeimnflikbdbaa
