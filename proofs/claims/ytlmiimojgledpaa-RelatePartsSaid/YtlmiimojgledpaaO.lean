/- The arguments of the layer relate's laws, opened. -/
import Derived.Test.YtlmiimojgledpaaR0
import Derived.Test.YtlmiimojgledpaaSh18
set_option linter.unusedVariables false
set_option linter.unusedSimpArgs false
set_option linter.unusedSectionVars false
namespace Go.Proofs.Ytlmiimojgledpaa
open Sh RowKit
theorem u3 : Try.prog.underlying 3 = some (.int .i64) := by kernel_rfl
theorem u33 : Try.prog.underlying 33 = some (.slice 31) := by kernel_rfl
theorem u22 : Try.prog.underlying 22 = some (.slice 33) := by kernel_rfl
theorem u23 : Try.prog.underlying 23 = some (.array 2 3) := by kernel_rfl
theorem xsc22 : isSc Try.prog 22 = true := by kernel_rfl
theorem xsc3 : isSc Try.prog 3 = true := by kernel_rfl
theorem xag23 : isAg Try.prog 23 2 = true := by kernel_rfl
theorem xag31 : isAg Try.prog 31 3 = true := by kernel_rfl
theorem len2 {cs : List Value} (h : cs.length = 2) : ∃ a b, cs = [a, b] := by
  match cs, h with
  | [a, b], _ => exact ⟨a, b, rfl⟩
theorem len3 {cs : List Value} (h : cs.length = 3) : ∃ a b c, cs = [a, b, c] := by
  match cs, h with
  | [a, b, c], _ => exact ⟨a, b, c, rfl⟩
theorem one_cell {x y : Value} (h : [x] = [y]) : x = y := (List.cons.inj h).1
theorem op31 : Opens Try.prog 31 Val vR (fun _ => 1) := by
  refine Opens.mono (op_struct Try.underlying31 (n := 3) (by kernel_rfl) (opf_cons (n := 1) (by kernel_rfl) (op_int u29) (opf_cons (n := 1) (by kernel_rfl) (op_int u2)
    (opf_cons (n := 1) (by kernel_rfl) (op_str u9) opf_nil)))) ?_
  rintro w cs ⟨a, b, n, ⟨⟩⟩ ⟨hl, ⟨h0, h0'⟩, ⟨h1, h1'⟩, ⟨h2, h2'⟩, -⟩
  obtain ⟨c0, c1, c2, rfl⟩ := len3 hl
  have e0 := one_cell (x := c0) h0
  have e1 := one_cell (x := c1) h1
  have e2 := one_cell (x := c2) h2
  have h2' : n.size ≤ reachBytes := h2'
  have hm : n.size ≤ maxLen := by unfold reachBytes at h2'; unfold maxLen; omega
  exact ⟨⟨a, b, n⟩, ⟨by rw [e0, e1, e2]; rfl, h0', h1', hm⟩, by simp⟩
theorem sum1 : ∀ l : List Val, (l.map fun _ => 1).sum = l.length
  | [] => rfl
  | _ :: l => by rw [List.map_cons, List.sum_cons, sum1 l, List.length_cons]; omega
/-- a row's bulk -/
def rB (r : Row) : Nat := r.length + 1
/-- a row, of so many bytes at most -/
def rowRz : RepT Row := fun w cs r => rowR w cs r ∧ r.length * 32 ≤ 140737488355328
theorem op33 : Opens Try.prog 33 Row rowRz rB := by
  refine Opens.mono (op_slice u33 (n := 3) (by kernel_rfl) op31) ?_
  rintro w cs l ⟨v, rfl, h, hs⟩
  have e : Try.prog.bytesOf 31 = 32 := by kernel_rfl
  rw [e] at hs
  refine ⟨l, ⟨⟨v, rfl, h⟩, by unfold reachBytes at hs; omega⟩, ?_⟩
  unfold rB
  rw [sum1]
  exact Nat.le_refl _
theorem op22 : Opens Try.prog 22 (List Row) (fun w cs l => ∃ v, cs = [v] ∧ rdL w v l ∧ ∀ r ∈ l, r.length * 32 ≤ 140737488355328) (fun l => (l.map rB).sum) := by
  refine Opens.mono (op_slice u22 (n := 1) (by kernel_rfl) op33) ?_
  rintro w cs l ⟨v, rfl, h, hs⟩
  refine ⟨l, ⟨v, rfl, rdS_mono (fun _ _ h => h.1) h, fun r hr => ?_⟩, by omega⟩
  obtain ⟨i, hi, rfl⟩ := List.mem_iff_getElem.1 hr
  obtain ⟨_, _, _, _, hz, _⟩ := rdS_at h hi
  exact hz.2
theorem sum_mem {l : List Row} {r : Row} (h : r ∈ l) : r.length ≤ (l.map rB).sum := by
  induction l with
  | nil => cases h
  | cons x l ih =>
    rw [List.map_cons, List.sum_cons]
    rcases List.mem_cons.1 h with rfl | h
    · unfold rB; omega
    · have := ih h; omega
theorem op23 : Opens Try.prog 23 (Int × Int) (fun _ cs x => cs = [.int .i64 x.1, .int .i64 x.2]) (fun _ => 0) := by
  refine Opens.mono (op_arr u23 (k := 2) (n := 1) (by kernel_rfl) (by kernel_rfl) (op_int u3)) ?_
  rintro w cs l ⟨hl, hm, h⟩
  obtain ⟨c0, c1, rfl⟩ := len2 hl
  match l, hm with
  | [a, b], _ =>
    have e0 := (h 0 (by simp)).1
    have e1 := (h 1 (by simp)).1
    simp at e0 e1
    exact ⟨(a, b), by rw [e0, e1], Nat.zero_le _⟩
/-- two lists and two columns -/
def RJ : World → List Value → List Row × List Row × (Int × Int) → Prop := fun W vs x => ∃ v u, vs = [v, u, .agg #[.int .i64 x.2.2.1, .int .i64 x.2.2.2]] ∧ rdL W v x.1 ∧ rdL W u x.2.1 ∧ (∀ r ∈ x.1, r.length * 32 ≤ 140737488355328) ∧ ∀ r ∈ x.2.1, r.length * 32 ≤ 140737488355328
def bJ : List Row × List Row × (Int × Int) → Nat := fun x => (x.1.map rB).sum + (x.2.1.map rB).sum
theorem agg_of {cs : Array Value} {l : List Value} (h : cs.toList = l) : cs = l.toArray := by rw [← h, Array.toArray_toList]
theorem oaJ : OpensA Try.prog [22, 22, 23] (List Row × List Row × (Int × Int)) RJ bJ := by
  refine OpensA.mono (oa_one op22 xsc22 (fun w cs a h => ⟨_, h.choose_spec.1⟩) (oa_one op22 xsc22 (fun w cs a h => ⟨_, h.choose_spec.1⟩) (oa_agg op23 xag23 oa_nil))) ?_
  rintro W vs ⟨l, l2, x, ⟨⟩⟩ ⟨v, r, rfl, ⟨v', hv, hr, hz⟩, v2, r2, rfl, ⟨v2', hv2, hr2, hz2⟩, cs, r3, rfl, h1, rfl⟩
  refine ⟨(l, l2, x), ⟨v, v2, by rw [agg_of h1], by rw [one_cell hv]; exact hr, by rw [one_cell hv2]; exact hr2, hz, hz2⟩, ?_⟩
  unfold bJ
  simp only
  omega
end Go.Proofs.Ytlmiimojgledpaa
