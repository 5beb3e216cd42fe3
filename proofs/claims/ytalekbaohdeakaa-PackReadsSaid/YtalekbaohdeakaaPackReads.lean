/- The call of PackReads returns true for every input, and its arguments read behind it as they read before. -/
import Derived.Test.YtalekbaohdeakaaO
set_option linter.unusedVariables false
namespace Go.Proofs.Ytalekbaohdeakaa
open Go.ChangeShapes Go.WideShapes Go.ChangeAt Go.RowKit
open Sh
def R7 : World → List Value → ByteArray × List Thing → Prop := fun W vs x => ∃ v, vs = [.string x.1, v] ∧ x.1.size ≤ reachBytes ∧ rdS 4 tR W v x.2 ∧ x.2.length * 40 ≤ reachBytes
def b7 : ByteArray × List Thing → Nat := fun _ => 0
theorem oa7 : OpensA Try.prog [9, 34] (ByteArray × List Thing) R7 b7 := by
  refine OpensA.mono (oa_one (op_str u9) sc9 (fun w cs a h => ⟨_, h.1⟩) (oa_one (op_slice u34 (n := 4) (by kernel_rfl) op25) sc34 (fun w cs a h => ⟨_, h.choose_spec.1⟩) oa_nil)) ?_
  rintro W vs ⟨s, l, ⟨⟩⟩ ⟨v, r, rfl, ⟨h, hs⟩, v2, r2, rfl, ⟨v', hv, hr, hl⟩, rfl⟩
  refine ⟨(s, l), ⟨v2, ?_, hs, ?_, ?_⟩, Nat.zero_le _⟩
  · rw [one_cell h]
  · rw [one_cell hv]; exact hr
  · have e : Try.prog.bytesOf 25 = 40 := by kernel_rfl
    rw [e] at hl
    exact hl
theorem law7 (W : World) (vs : List Value) (a : ByteArray × List Thing) (h : R7 W vs a) : Calls Try.prog 7 vs.toArray W (Rt fun v W' => v = .bool true ∧ Below W.heap.size W W') := by
  obtain ⟨v, rfl, h1, h2, h3⟩ := h
  exact s7 _ _ _ _ (f7_s a.1 h1 v a.2 W _ h2 h3 fun w' h => ⟨rfl, h⟩)
theorem own : ownKnob Try.prog.godebug = none := by kernel_rfl
set_option maxRecDepth 100000 in
theorem lifted7 (os : Os) (started : os.Started) (H : Type) (enc : TypeId × Value → H) :
    ReturnsInHanded {} Try.checked os 7 .any (Rows.packReadsSpec.pre6 enc Try.prog Try.f7 Rows.packReadsRow.domain false) (Rows.packReadsSpec.post enc Try.prog Try.f7 false true false false) := by
  refine law_from (C := Try.checked) (tb := 4) (R := R7) (b := b7) own started (by kernel_rfl) Try.func7
    (ChangeSpec.witness6 (enc := enc) (C := Try.checked) false ⟨#[], #[.string ByteArray.empty, .slice none 0 0], []⟩ 8 (by kernel_rfl) (by kernel_rfl) (by kernel_rfl) (by kernel_rfl))
    rfl (by kernel_rfl) (by kernel_rfl) rfl Try.underlying4 (fun ds hd => ?_) ?_ law7
  · match ds, hd with
    | [d0, d1], _ => exact ⟨rfl, rfl, rfl⟩
  · show OpensA Try.prog Try.f7.params.toList _ R7 b7
    rw [Try.params7]; exact oa7
theorem packReads_holds : Rows.PackReadsSaid :=
  OpenClaim.holds_of_wide 7 Try.f7 rfl rfl rfl rfl rfl rfl rfl ⟨rfl, rfl, rfl, rfl, rfl⟩ rfl rfl rfl rfl rfl (by kernel_rfl) Try.func7 (by kernel_rfl)
    (of_decide_eq_true (by kernel_rfl)) (by unfold Func.isWrapper; first | (rw [if_pos (by decide +kernel)]; kernel_rfl) | (rw [if_neg (by decide +kernel)]; exact ⟨rfl, rfl⟩))
    (fun os started H enc _ => lifted7 os started H enc)
#print axioms packReads_holds
end Go.Proofs.Ytalekbaohdeakaa
