/- The call of RetryShift returns true for every plan, any time and any difference, and its arguments read behind it as they read before. -/
import Derived.Test.YtoeimnflikbdbaaRows
import Derived.Test.YtoeimnflikbdbaaM4
import Derived.Test.YtoeimnflikbdbaaSh11
import Derived.Lib.SmallJoins
import Derived.OpenShut
namespace Go.Proofs.Ytoeimnflikbdbaa
open Go.ChangeShapes Go.WideShapes Go.ChangeAt Go.RowKit Go.Joins
open Sh
set_option linter.unusedVariables false
theorem cells23 : Try.prog.cellsOf 23 = 4 := by kernel_rfl
theorem own : ownKnob Try.prog.godebug = none := by kernel_rfl
theorem law4 (F M Fa T a now : Int) (h0 : -9223372036854775808 ≤ a) (h1 : a ≤ 9223372036854775807) (W : World) : Calls Try.prog 4 #[planV F M Fa T, .int .i64 a, .int .i64 now] W (Rt fun v W' => v = .bool true ∧ Below W.heap.size W W') :=
  s4 _ _ _ _ _ (f4_s F M Fa T a now h0 h1 W _ fun w' h => ⟨rfl, h⟩)
set_option maxRecDepth 100000 in
theorem lifted4 (os : Os) (started : os.Started) (H : Type) (enc : TypeId × Value → H) :
    ReturnsInHanded {} Try.checked os 4 .any (Rows.retryShiftSpec.pre6 enc Try.prog Try.f4 Rows.retryShiftRow.domain false) (Rows.retryShiftSpec.post enc Try.prog Try.f4 false true false false) := by
  refine law_lifted (C := Try.checked) (tb := 4) own started (by kernel_rfl) Try.func4
    (ChangeSpec.witness6 (enc := enc) (C := Try.checked) false ⟨#[], #[planV 0 0 0 0, .int .i64 0, .int .i64 0], []⟩ 8 (by kernel_rfl) (by kernel_rfl) (by kernel_rfl) (by kernel_rfl))
    rfl (by kernel_rfl) (by kernel_rfl) rfl Try.underlying4 (fun ds hd => ?_) ?_
  · match ds, hd with
    | [d0, d1, d2], _ => exact ⟨rfl, rfl, rfl⟩
  · intro W base args ds p hval0 hA hz
    have hval : ∀ (j : Nat) t v, Try.f4.params[j]? = some t → args[j]? = some v → Value.okWide Try.prog W .any base t v := hval0
    rw [Try.params4] at hA hval
    obtain ⟨v0, vs0, d0, ds0, p0, q0, hargs, rfl, rfl, h0, r0⟩ := trodAll_cons hA
    obtain ⟨v1, vs1, d1, ds1, p1, q1, rfl, rfl, rfl, h1, r1⟩ := trodAll_cons r0
    obtain ⟨v2, vs2, d2, ds2, p2, q2, rfl, rfl, rfl, h2, r2⟩ := trodAll_cons r1
    obtain ⟨rfl, rfl, rfl⟩ := trodAll_nil r2
    obtain rfl : args = #[v0, v1, v2] := by cases args; simp_all
    obtain ⟨c0, c1, c2, c3, y0, y1, y2, y3, m, rfl, rfl, rfl, hy0, hy1, hy2, hy3⟩ := open_agg4 Try.underlying23 (by kernel_rfl) cells23 (hval 0 23 v0 rfl rfl) h0
    obtain ⟨F, e0, rfl, w0⟩ := DataW.trod_int Try.underlying2 hy0
    obtain ⟨M, e1, rfl, w1⟩ := DataW.trod_int Try.underlying2 hy1
    obtain ⟨Fa, e2, rfl, w2⟩ := DataW.trod_int Try.underlying3 hy2
    obtain ⟨T, e3, rfl, w3⟩ := DataW.trod_int Try.underlying3 hy3
    simp at e0 e1 e2 e3
    subst e0 e1 e2 e3
    obtain ⟨a, rfl, rfl, rfl, wa⟩ := open_int Try.underlying2 (hval 1 2 v1 rfl rfl) h1
    obtain ⟨now, rfl, rfl, rfl, wn⟩ := open_int Try.underlying2 (hval 2 2 v2 rfl rfl) h2
    have hb := wf64 wa
    exact law4 F M Fa T a now hb.1 hb.2 W
theorem retryShift_holds : Rows.RetryShiftSaid :=
  OpenClaim.holds_of_wide 4 Try.f4 rfl rfl rfl rfl rfl rfl rfl ⟨rfl, rfl, rfl, rfl, rfl⟩ rfl rfl rfl rfl rfl (by kernel_rfl) Try.func4 (by kernel_rfl)
    (of_decide_eq_true (by kernel_rfl)) (by unfold Func.isWrapper; first | (rw [if_pos (by decide +kernel)]; kernel_rfl) | (rw [if_neg (by decide +kernel)]; exact ⟨rfl, rfl⟩))
    (fun os started H enc _ => lifted4 os started H enc)
#print axioms retryShift_holds
end Go.Proofs.Ytoeimnflikbdbaa
