/- The call of RetryRises returns true for every plan, any time and any difference, and its arguments read behind it as they read before. -/
import Derived.Test.YtoeimnflikbdbaaRows
import Derived.Test.YtoeimnflikbdbaaM6
import Derived.Test.YtoeimnflikbdbaaSh11
import Derived.Lib.SmallJoins
import Derived.OpenShut
namespace Go.Proofs.Ytoeimnflikbdbaa
open Go.ChangeShapes Go.WideShapes Go.ChangeAt Go.RowKit Go.Joins
open Sh
set_option linter.unusedVariables false
theorem cells23 : Try.prog.cellsOf 23 = 4 := by kernel_rfl
theorem own : ownKnob Try.prog.godebug = none := by kernel_rfl
theorem law6 (F M Fa T : Int) (s : ByteArray) (hs : s.size ≤ 4611686018427387904) (W : World) : Calls Try.prog 6 #[planV F M Fa T, .string s] W (Rt fun v W' => v = .bool true ∧ Below W.heap.size W W') :=
  s6 _ _ _ _ (f6_s F M Fa T s hs W _ fun w' h => ⟨rfl, h⟩)
set_option maxRecDepth 100000 in
theorem lifted6 (os : Os) (started : os.Started) (H : Type) (enc : TypeId × Value → H) :
    ReturnsInHanded {} Try.checked os 6 .any (Rows.retryRisesSpec.pre6 enc Try.prog Try.f6 Rows.retryRisesRow.domain false) (Rows.retryRisesSpec.post enc Try.prog Try.f6 false true false false) := by
  refine law_lifted (C := Try.checked) (tb := 4) own started (by kernel_rfl) Try.func6
    (ChangeSpec.witness6 (enc := enc) (C := Try.checked) false ⟨#[], #[planV 0 0 0 0, .string ByteArray.empty], []⟩ 8 (by kernel_rfl) (by kernel_rfl) (by kernel_rfl) (by kernel_rfl))
    rfl (by kernel_rfl) (by kernel_rfl) rfl Try.underlying4 (fun ds hd => ?_) ?_
  · match ds, hd with
    | [d0, d1], _ => exact ⟨rfl, rfl, rfl⟩
  · intro W base args ds p hval0 hA hz
    have hval : ∀ (j : Nat) t v, Try.f6.params[j]? = some t → args[j]? = some v → Value.okWide Try.prog W .any base t v := hval0
    rw [Try.params6] at hA hval
    obtain ⟨v0, vs0, d0, ds0, p0, q0, hargs, rfl, rfl, h0, r0⟩ := trodAll_cons hA
    obtain ⟨v1, vs1, d1, ds1, p1, q1, rfl, rfl, rfl, h1, r1⟩ := trodAll_cons r0
    obtain ⟨rfl, rfl, rfl⟩ := trodAll_nil r1
    obtain rfl : args = #[v0, v1] := by cases args; simp_all
    obtain ⟨c0, c1, c2, c3, y0, y1, y2, y3, m, rfl, rfl, rfl, hy0, hy1, hy2, hy3⟩ := open_agg4 Try.underlying23 (by kernel_rfl) cells23 (hval 0 23 v0 rfl rfl) h0
    obtain ⟨F, e0, rfl, w0⟩ := DataW.trod_int Try.underlying2 hy0
    obtain ⟨M, e1, rfl, w1⟩ := DataW.trod_int Try.underlying2 hy1
    obtain ⟨Fa, e2, rfl, w2⟩ := DataW.trod_int Try.underlying3 hy2
    obtain ⟨T, e3, rfl, w3⟩ := DataW.trod_int Try.underlying3 hy3
    simp at e0 e1 e2 e3
    subst e0 e1 e2 e3
    obtain ⟨s, rfl, rfl, rfl, hs⟩ := ChangeMaps.open_string Try.underlying9 (hval 1 9 v1 rfl rfl) h1
    rw [Try.params6] at hz
    have hz' : s.size ≤ 4611686018427387904 := by
      have h9 := List.all_eq_true.1 hz s.data.toList.length (by simp only [DataW.weightsEach, DataW.weights]; simp)
      have h8 : s.data.toList.length = s.size := by rw [Array.length_toList]; rfl
      rw [h8] at h9
      have := of_decide_eq_true h9
      unfold reachBytes at this
      omega
    exact law6 F M Fa T s hz' W
theorem retryRises_holds : Rows.RetryRisesSaid :=
  OpenClaim.holds_of_wide 6 Try.f6 rfl rfl rfl rfl rfl rfl rfl ⟨rfl, rfl, rfl, rfl, rfl⟩ rfl rfl rfl rfl rfl (by kernel_rfl) Try.func6 (by kernel_rfl)
    (of_decide_eq_true (by kernel_rfl)) (by unfold Func.isWrapper; first | (rw [if_pos (by decide +kernel)]; kernel_rfl) | (rw [if_neg (by decide +kernel)]; exact ⟨rfl, rfl⟩))
    (fun os started H enc _ => lifted6 os started H enc)
#print axioms retryRises_holds
end Go.Proofs.Ytoeimnflikbdbaa
