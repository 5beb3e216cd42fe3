/- The arguments of the layer timers' laws, opened. -/
import Derived.Test.YtpjffilejnemmaaT8
import Derived.Test.YtpjffilejnemmaaSh18
set_option linter.unusedVariables false
set_option linter.unusedSimpArgs false
set_option linter.unusedSectionVars false
namespace Go.Proofs.Ytpjffilejnemmaa
open Sh RowKit
theorem u2 : Try.prog.underlying 2 = some (.int .i64) := by kernel_rfl
theorem u3 : Try.prog.underlying 3 = some (.int .i64) := by kernel_rfl
theorem u22 : Try.prog.underlying 22 = some (.slice 28) := by kernel_rfl
theorem xsc22 : isSc Try.prog 22 = true := by kernel_rfl
theorem xsc2 : isSc Try.prog 2 = true := by kernel_rfl
theorem xsc3 : isSc Try.prog 3 = true := by kernel_rfl
theorem len3 {cs : List Value} (h : cs.length = 3) : ∃ a b c, cs = [a, b, c] := by
  match cs, h with
  | [a, b, c], _ => exact ⟨a, b, c, rfl⟩
theorem one_cell {x y : Value} (h : [x] = [y]) : x = y := (List.cons.inj h).1
theorem op28 : Opens Try.prog 28 Op3 oR (fun _ => 4) := by
  refine Opens.mono (op_struct Try.underlying28 (n := 3) (by kernel_rfl) (opf_cons (n := 1) (by kernel_rfl) (op_int u3) (opf_cons (n := 1) (by kernel_rfl) (op_int u3)
    (opf_cons (n := 1) (by kernel_rfl) (op_int u2) opf_nil)))) ?_
  rintro w cs ⟨a, b, n, ⟨⟩⟩ ⟨hl, ⟨h0, _⟩, ⟨h1, _⟩, ⟨h2, h2'⟩, -⟩
  obtain ⟨c0, c1, c2, rfl⟩ := len3 hl
  have e0 := one_cell (x := c0) h0
  have e1 := one_cell (x := c1) h1
  have e2 := one_cell (x := c2) h2
  exact ⟨⟨a, b, n⟩, by rw [e0, e1, e2]; rfl, Nat.le_refl _⟩
/-- one script -/
def RS : World → List Value → List Op3 → Prop := fun W vs l => ∃ v, vs = [v] ∧ rdS 3 oR W v l
def RSi : World → List Value → List Op3 × Int → Prop := fun W vs x => ∃ v, vs = [v, .int .i64 x.2] ∧ rdS 3 oR W v x.1
theorem oaS : OpensA Try.prog [22] (List Op3) RS (fun _ => 0) := by
  refine OpensA.mono (oa_one (op_slice u22 (n := 3) (by kernel_rfl) op28) xsc22 (fun w cs a h => ⟨_, h.choose_spec.1⟩) oa_nil) ?_
  rintro W vs ⟨l, ⟨⟩⟩ ⟨v, r, rfl, ⟨v', hv, hr, hl⟩, rfl⟩
  exact ⟨l, ⟨v, rfl, by rw [one_cell hv]; exact hr⟩, Nat.zero_le _⟩
theorem oaS2 : OpensA Try.prog [22, 2] (List Op3 × Int) RSi (fun _ => 0) := by
  refine OpensA.mono (oa_one (op_slice u22 (n := 3) (by kernel_rfl) op28) xsc22 (fun w cs a h => ⟨_, h.choose_spec.1⟩) (oa_one (op_int u2) xsc2 (fun w cs a h => ⟨_, h.1⟩) oa_nil)) ?_
  rintro W vs ⟨l, k, ⟨⟩⟩ ⟨v, r, rfl, ⟨v', hv, hr, hl⟩, v2, r2, rfl, ⟨h2, _⟩, rfl⟩
  exact ⟨(l, k), ⟨v, by rw [one_cell h2], by rw [one_cell hv]; exact hr⟩, Nat.zero_le _⟩
theorem oaS3 : OpensA Try.prog [22, 3] (List Op3 × Int) RSi (fun _ => 0) := by
  refine OpensA.mono (oa_one (op_slice u22 (n := 3) (by kernel_rfl) op28) xsc22 (fun w cs a h => ⟨_, h.choose_spec.1⟩) (oa_one (op_int u3) xsc3 (fun w cs a h => ⟨_, h.1⟩) oa_nil)) ?_
  rintro W vs ⟨l, k, ⟨⟩⟩ ⟨v, r, rfl, ⟨v', hv, hr, hl⟩, v2, r2, rfl, ⟨h2, _⟩, rfl⟩
  exact ⟨(l, k), ⟨v, by rw [one_cell h2], by rw [one_cell hv]; exact hr⟩, Nat.zero_le _⟩
def RI2 : World → List Value → Int × Int → Prop := fun W vs x => vs = [.int .i64 x.1, .int .i64 x.2]
theorem oaI2 : OpensA Try.prog [3, 2] (Int × Int) RI2 (fun _ => 0) := by
  refine OpensA.mono (oa_one (op_int u3) xsc3 (fun w cs a h => ⟨_, h.1⟩) (oa_one (op_int u2) xsc2 (fun w cs a h => ⟨_, h.1⟩) oa_nil)) ?_
  rintro W vs ⟨a, k, ⟨⟩⟩ ⟨v, r, rfl, ⟨h1, _⟩, v2, r2, rfl, ⟨h2, _⟩, rfl⟩
  exact ⟨(a, k), by show _ = _; rw [one_cell h1, one_cell h2], Nat.zero_le _⟩
end Go.Proofs.Ytpjffilejnemmaa
