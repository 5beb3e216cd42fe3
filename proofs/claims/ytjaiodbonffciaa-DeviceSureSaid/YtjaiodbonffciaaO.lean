/- The arguments of the layer device's laws, opened. -/
import Derived.Test.YtjaiodbonffciaaD11
import Derived.Test.YtjaiodbonffciaaSh18
set_option linter.unusedVariables false
set_option linter.unusedSimpArgs false
set_option linter.unusedSectionVars false
namespace Go.Proofs.Ytjaiodbonffciaa
open Sh RowKit
theorem u3 : Try.prog.underlying 3 = some (.int .i64) := by kernel_rfl
theorem u4 : Try.prog.underlying 4 = some .bool := by kernel_rfl
theorem u9 : Try.prog.underlying 9 = some .string := by kernel_rfl
theorem u38 : Try.prog.underlying 38 = some (.slice 4) := by kernel_rfl
theorem u32 : Try.prog.underlying 32 = some (.slice 40) := by kernel_rfl
theorem xsc32 : isSc Try.prog 32 = true := by kernel_rfl
theorem xsc3 : isSc Try.prog 3 = true := by kernel_rfl
theorem xag40 : isAg Try.prog 40 5 = true := by kernel_rfl
theorem len5 {cs : List Value} (h : cs.length = 5) : ∃ a b c d e, cs = [a, b, c, d, e] := by
  match cs, h with
  | [a, b, c, d, e], _ => exact ⟨a, b, c, d, e, rfl⟩
theorem one_cell {x y : Value} (h : [x] = [y]) : x = y := (List.cons.inj h).1
theorem op40 : Opens Try.prog 40 Op4 oR4 (fun _ => 0) := by
  refine Opens.mono (op_struct Try.underlying40 (n := 5) (by kernel_rfl) (opf_cons (n := 1) (by kernel_rfl) (op_int u3) (opf_cons (n := 1) (by kernel_rfl) (op_int u3)
    (opf_cons (n := 1) (by kernel_rfl) (op_str u9) (opf_cons (n := 1) (by kernel_rfl) (op_slice u38 (n := 1) (by kernel_rfl) (op_bool u4)) (opf_cons (n := 1) (by kernel_rfl) (op_int u3) opf_nil)))))) ?_
  rintro w cs ⟨a, i, s, l, n, ⟨⟩⟩ ⟨hl, ⟨h0, _⟩, ⟨h1, _⟩, ⟨h2, _⟩, ⟨v, h3, h3', _⟩, ⟨h4, _⟩, -⟩
  obtain ⟨c0, c1, c2, c3, c4, rfl⟩ := len5 hl
  have e0 := one_cell (x := c0) h0
  have e1 := one_cell (x := c1) h1
  have e2 := one_cell (x := c2) h2
  have e3 := one_cell (x := c3) h3
  have e4 := one_cell (x := c4) h4
  exact ⟨⟨a, i, s, l, n, v⟩, ⟨by rw [e0, e1, e2, e3, e4]; rfl, h3'⟩, Nat.zero_le _⟩
def RI2 : World → List Value → Int × Int → Prop := fun W vs x => vs = [.int .i64 x.1, .int .i64 x.2]
theorem oaI2 : OpensA Try.prog [3, 3] (Int × Int) RI2 (fun _ => 0) := by
  refine OpensA.mono (oa_one (op_int u3) xsc3 (fun w cs a h => ⟨_, h.1⟩) (oa_one (op_int u3) xsc3 (fun w cs a h => ⟨_, h.1⟩) oa_nil)) ?_
  rintro W vs ⟨a, k, ⟨⟩⟩ ⟨v, r, rfl, ⟨h1, _⟩, v2, r2, rfl, ⟨h2, _⟩, rfl⟩
  exact ⟨(a, k), by show _ = _; rw [one_cell h1, one_cell h2], Nat.zero_le _⟩
def RO : World → List Value → Op4 → Prop := fun W vs o => vs = [.agg o.cells.toArray] ∧ rdS 1 bR W o.vk o.keep
theorem agg_of {cs : Array Value} {l : List Value} (h : cs.toList = l) : cs = l.toArray := by rw [← h, Array.toArray_toList]
theorem oaO : OpensA Try.prog [40] Op4 RO (fun _ => 0) := by
  refine OpensA.mono (oa_agg op40 xag40 oa_nil) ?_
  rintro W vs ⟨o, ⟨⟩⟩ ⟨cs, r, rfl, ⟨h1, h2⟩, rfl⟩
  exact ⟨o, ⟨by rw [agg_of h1], h2⟩, Nat.zero_le _⟩
/-- a number and a script -/
def RnS : World → List Value → Int × List Op4 → Prop := fun W vs x => ∃ v, vs = [.int .i64 x.1, v] ∧ rdS 5 oR4 W v x.2
theorem oanS : OpensA Try.prog [3, 32] (Int × List Op4) RnS (fun _ => 0) := by
  refine OpensA.mono (oa_one (op_int u3) xsc3 (fun w cs a h => ⟨_, h.1⟩) (oa_one (op_slice u32 (n := 5) (by kernel_rfl) op40) xsc32 (fun w cs a h => ⟨_, h.choose_spec.1⟩) oa_nil)) ?_
  rintro W vs ⟨a, l, ⟨⟩⟩ ⟨v, r, rfl, ⟨h1, _⟩, v2, r2, rfl, ⟨v', hv, hr, hl⟩, rfl⟩
  exact ⟨(a, l), ⟨v2, by rw [one_cell h1], by rw [one_cell hv]; exact hr⟩, Nat.zero_le _⟩
def RSn : World → List Value → List Op4 × Int → Prop := fun W vs x => ∃ v, vs = [v, .int .i64 x.2] ∧ rdS 5 oR4 W v x.1
theorem oaSn : OpensA Try.prog [32, 3] (List Op4 × Int) RSn (fun _ => 0) := by
  refine OpensA.mono (oa_one (op_slice u32 (n := 5) (by kernel_rfl) op40) xsc32 (fun w cs a h => ⟨_, h.choose_spec.1⟩) (oa_one (op_int u3) xsc3 (fun w cs a h => ⟨_, h.1⟩) oa_nil)) ?_
  rintro W vs ⟨l, a, ⟨⟩⟩ ⟨v2, r2, rfl, ⟨v', hv, hr, hl⟩, v, r, rfl, ⟨h1, _⟩, rfl⟩
  exact ⟨(l, a), ⟨v2, by rw [one_cell h1], by rw [one_cell hv]; exact hr⟩, Nat.zero_le _⟩
def RSO : World → List Value → List Op4 × Op4 → Prop := fun W vs x => ∃ v, vs = [v, .agg x.2.cells.toArray] ∧ rdS 5 oR4 W v x.1 ∧ rdS 1 bR W x.2.vk x.2.keep
theorem oaSO : OpensA Try.prog [32, 40] (List Op4 × Op4) RSO (fun _ => 0) := by
  refine OpensA.mono (oa_one (op_slice u32 (n := 5) (by kernel_rfl) op40) xsc32 (fun w cs a h => ⟨_, h.choose_spec.1⟩) (oa_agg op40 xag40 oa_nil)) ?_
  rintro W vs ⟨l, o, ⟨⟩⟩ ⟨v2, r2, rfl, ⟨v', hv, hr, hl⟩, cs, r, rfl, ⟨h1, h2⟩, rfl⟩
  exact ⟨(l, o), ⟨v2, by rw [agg_of h1], by rw [one_cell hv]; exact hr, h2⟩, Nat.zero_le _⟩
def RSSO : World → List Value → List Op4 × List Op4 × Op4 → Prop := fun W vs x => ∃ v u, vs = [v, u, .agg x.2.2.cells.toArray] ∧ rdS 5 oR4 W v x.1 ∧ rdS 5 oR4 W u x.2.1 ∧ rdS 1 bR W x.2.2.vk x.2.2.keep
theorem oaSSO : OpensA Try.prog [32, 32, 40] (List Op4 × List Op4 × Op4) RSSO (fun _ => 0) := by
  refine OpensA.mono (oa_one (op_slice u32 (n := 5) (by kernel_rfl) op40) xsc32 (fun w cs a h => ⟨_, h.choose_spec.1⟩) (oa_one (op_slice u32 (n := 5) (by kernel_rfl) op40) xsc32 (fun w cs a h => ⟨_, h.choose_spec.1⟩) (oa_agg op40 xag40 oa_nil))) ?_
  rintro W vs ⟨l, l2, o, ⟨⟩⟩ ⟨v2, r2, rfl, ⟨v', hv, hr, hl⟩, v3, r3, rfl, ⟨v3', hv3, hr3, hl3⟩, cs, r, rfl, ⟨h1, h2⟩, rfl⟩
  exact ⟨(l, l2, o), ⟨v2, v3, by rw [agg_of h1], by rw [one_cell hv]; exact hr, by rw [one_cell hv3]; exact hr3, h2⟩, Nat.zero_le _⟩
end Go.Proofs.Ytjaiodbonffciaa
