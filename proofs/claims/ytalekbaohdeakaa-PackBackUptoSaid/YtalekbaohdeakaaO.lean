/- The arguments of the layer pack's laws, opened. -/
import Derived.Test.YtalekbaohdeakaaP5
import Derived.Test.YtalekbaohdeakaaSh18
set_option linter.unusedVariables false
set_option linter.unusedSimpArgs false
namespace Go.Proofs.Ytalekbaohdeakaa
open Sh RowKit
theorem u23 : Try.prog.underlying 23 = some (.int .u64) := by kernel_rfl
theorem u3 : Try.prog.underlying 3 = some (.int .i64) := by kernel_rfl
theorem u9 : Try.prog.underlying 9 = some .string := by kernel_rfl
theorem u22 : Try.prog.underlying 22 = some (.slice 5) := by kernel_rfl
theorem u34 : Try.prog.underlying 34 = some (.slice 25) := by kernel_rfl
theorem sc22 : isSc Try.prog 22 = true := by kernel_rfl
theorem sc34 : isSc Try.prog 34 = true := by kernel_rfl
theorem wfu64 {a : Int} (h : (Lit.int .u64 a).wf = true) : 0 ≤ a ∧ a ≤ 18446744073709551615 := by
  simp [Lit.wf, IntKind.min, IntKind.max, IntKind.signed, IntKind.bits] at h
  omega
theorem wfu8 {a : Int} (h : (Lit.int .u8 a).wf = true) : 0 ≤ a ∧ a ≤ 255 := by
  simp [Lit.wf, IntKind.min, IntKind.max, IntKind.signed, IntKind.bits] at h
  omega
theorem len4 {cs : List Value} (h : cs.length = 4) : ∃ a b c d, cs = [a, b, c, d] := by
  match cs, h with
  | [a, b, c, d], _ => exact ⟨a, b, c, d, rfl⟩
theorem one_cell {x y : Value} (h : [x] = [y]) : x = y := (List.cons.inj h).1
theorem op25 : Opens Try.prog 25 Thing tR tB := by
  refine Opens.mono (op_struct Try.underlying25 (n := 4) (by kernel_rfl) (opf_cons (n := 1) (by kernel_rfl) (op_int u3) (opf_cons (n := 1) (by kernel_rfl) (op_int u3)
    (opf_cons (n := 1) (by kernel_rfl) (op_int u23) (opf_cons (n := 1) (by kernel_rfl) (op_str u9) opf_nil))))) ?_
  rintro w cs ⟨a, b, n, s, ⟨⟩⟩ ⟨hl, ⟨h0, _⟩, ⟨h1, _⟩, ⟨h2, h2'⟩, ⟨h3, h3'⟩, -⟩
  obtain ⟨c0, c1, c2, c3, rfl⟩ := len4 hl
  have e0 := one_cell (x := c0) h0
  have e1 := one_cell (x := c1) h1
  have e2 := one_cell (x := c2) h2
  have e3 := one_cell (x := c3) h3
  have bd := wfu64 h2'
  refine ⟨⟨a, b, n.toNat, s⟩, ⟨?_, ?_, h3'⟩, ?_⟩
  · rw [e0, e1, e2, e3]
    simp only at bd ⊢
    unfold Thing.cells
    simp only
    congr 4
    omega
  · simp only at bd ⊢; omega
  · simp only [tB]; omega
theorem tB_sum (l : List Thing) : (l.map tB).sum = (l.map fun t => t.s.size + 5).sum := rfl
theorem ints_of {k : IntKind} {n : Nat} {w : World} {v : Value} {l : List Int} (h : rdS 1 (iR k) w v l) : rdP k w v l := by
  rcases h with ⟨rfl, rfl⟩ | ⟨a, c, rfl, h⟩
  · exact .inl ⟨rfl, rfl⟩
  · refine .inr ⟨a, c, rfl, fun i hi => ?_⟩
    obtain ⟨es, _, h2, h3, _⟩ := h i hi
    subst h3
    have := h2 0 _ rfl
    rw [Nat.mul_one] at this
    exact this
theorem ints_bd {k : IntKind} {w : World} {v : Value} {l : List Int} (h : rdS 1 (iR k) w v l) : ∀ x ∈ l, (Lit.int k x).wf = true := by
  intro x hx
  rcases h with ⟨rfl, rfl⟩ | ⟨a, c, rfl, h⟩
  · cases hx
  · obtain ⟨i, hi, rfl⟩ := List.mem_iff_getElem.1 hx
    obtain ⟨es, _, _, _, h4⟩ := h i hi
    exact h4
end Go.Proofs.Ytalekbaohdeakaa
