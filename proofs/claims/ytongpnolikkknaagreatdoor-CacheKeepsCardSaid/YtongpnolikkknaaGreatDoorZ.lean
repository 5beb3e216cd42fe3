/- The call of CacheKeeps returns true for every input, and its arguments read behind it as they read before. -/
import Derived.Test.YtongpnolikkknaaGreatDoorZ3
set_option linter.unusedVariables false
set_option linter.unusedSimpArgs false
set_option linter.unusedSectionVars false
namespace Go.Proofs.YtongpnolikkknaaGreatDoor
open Go.ChangeShapes Go.WideShapes Go.ChangeAt Go.RowKit
open Sh
def R5 := RiiO
def b5 : Int × Int × List Op7 → Nat := fun _ => 0
theorem oa5 : OpensA Tryz.prog [3, 3, 36] (Int × Int × List Op7) R5 b5 := oaiiO
theorem law5 (W : World) (vs : List Value) (a : Int × Int × List Op7) (h : R5 W vs a) : Calls Tryz.prog 5 vs.toArray W (Rt fun v W' => v = .bool true ∧ Below W.heap.size W W') := by
  obtain ⟨v, rfl, h1⟩ := h
  exact s5 _ _ _ _ _ (f5_s h1 fun w' hb => ⟨rfl, hb⟩)
set_option maxRecDepth 1000000 in
theorem lifted5 (os : Os) (started : os.Started) (H : Type) (enc : TypeId × Value → H) :
    ReturnsInHanded {} Tryz.checked os 5 .any (fun w args => (Rows.cacheKeepsSpec.pre enc Tryz.prog Tryz.f5 Rows.cacheKeepsRow.domain false w args ∧ laidMetH Tryz.prog Rows.cacheKeepsRow.laid w) ∧ sizedMet enc Tryz.prog Tryz.f5 (OpenSpec.ofChange Rows.cacheKeepsSpec) false w args) (Rows.cacheKeepsSpec.post enc Tryz.prog Tryz.f5 false true false false) := by
  refine law_from_laid (C := Tryz.checked) (X := (fun w _ => laidMetH Tryz.prog Rows.cacheKeepsRow.laid w)) (tb := 4) (R := R5) (b := b5) (fun _ _ _ hh h => h.of_heap hh) own started (by kernel_rfl) Tryz.func5
    (ChangeSpec.witness_at (enc := enc) (C := Tryz.checked) (os := os) (X := (fun w _ => laidMetH Tryz.prog Rows.cacheKeepsRow.laid w)) false (laidW Tryz.prog Rows.cacheKeepsRow.laid os) #[.int .i64 0, .int .i64 0, .slice none 0 0] 8 rfl (by kernel_rfl) (by kernel_rfl) (by kernel_rfl) (by kernel_rfl) (by kernel_rfl) (laidW_metH os _))
    rfl (by kernel_rfl) (by kernel_rfl) rfl Tryz.underlying4 (fun ds hd => ?_) ?_ law5
  · match ds, hd with
    | [d0, d1, d2], _ => exact ⟨rfl, rfl, rfl⟩
  · show OpensA Tryz.prog Tryz.f5.params.toList _ R5 b5
    rw [Tryz.params5]; exact oa5
theorem cacheKeeps_row : Rows.CacheKeepsSaid :=
  OpenClaim.holds_of_wide 5 Tryz.f5 rfl rfl rfl rfl rfl rfl rfl ⟨rfl, rfl, rfl, rfl, rfl⟩ rfl rfl rfl rfl rfl (by kernel_rfl) Tryz.func5 (by kernel_rfl)
    (of_decide_eq_true (by kernel_rfl)) (by unfold Func.isWrapper; first | (rw [if_pos (by decide +kernel)]; kernel_rfl) | (rw [if_neg (by decide +kernel)]; exact ⟨rfl, rfl⟩))
    (fun os started H enc _ => lifted5 os started H enc)
theorem cacheKeeps_holds : Rows.CacheKeepsCardSaid :=
  Claim7.holds_tied_plain_at .later [] Rows.cacheKeepsCard.laidKinds true Rows.cacheKeepsCard.stood.harness Rows.cacheKeepsCard.stood.looks
    cacheKeeps_row (fun _ h => by cases h) (by kernel_rfl) (fun _ h => by cases h) cacheKeeps_row_tie rfl ⟨rfl, rfl⟩ (by kernel_rfl) (by kernel_rfl)
    (fun f fn hf hfn => by
      obtain rfl : f = 5 := Option.some.inj ((show Tryz.prog.funcNamed Rows.cacheKeepsRow.func = some 5 by kernel_rfl).symm.trans hf) |>.symm
      obtain rfl : fn = Tryz.f5 := (Option.some.inj (Tryz.func5.symm.trans hfn)).symm
      exact ⟨by kernel_rfl, no_stand (by kernel_rfl)⟩)
    (by kernel_rfl)
#print axioms cacheKeeps_holds
end Go.Proofs.YtongpnolikkknaaGreatDoor
