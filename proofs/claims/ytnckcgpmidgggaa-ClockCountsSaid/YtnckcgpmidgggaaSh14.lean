/- Opening arguments: arrays of whole numbers, slices. -/
import Derived.Test.YtnckcgpmidgggaaSh12
import Derived.WideKeyArr2
import Derived.ChangeShapes
set_option linter.unusedVariables false
namespace Go.Proofs.Ytnckcgpmidgggaa
namespace Sh
open RowKit ChangeShapes
theorem mapM_all {α β : Type} {g : α → Option β} : ∀ {l : List α} {ys : List β}, l.mapM g = some ys → ys.length = l.length ∧ ∀ i (h : i < l.length), ∃ y, g l[i] = some y ∧ ys[i]? = some y := by
  intro l
  induction l with
  | nil => intro ys h; simp at h; subst h; simp
  | cons a l ih =>
    intro ys h
    rw [List.mapM_cons] at h
    cases ha : g a with
    | none => simp [ha] at h
    | some y =>
      cases hl : l.mapM g with
      | none => simp [ha, hl] at h
      | some zs =>
        simp [ha, hl] at h
        subst h
        obtain ⟨h1, h2⟩ := ih hl
        refine ⟨by simp [h1], fun i hi => ?_⟩
        cases i with
        | zero => exact ⟨y, ha, rfl⟩
        | succ i => simpa using h2 i (by simpa using hi)
section
variable {H : Type} {enc : TypeId × Value → H} {P : Program} {W : World} {base : Nat} {sp : Nat → Bool} {held : Bool}
theorem trod_int' {fuel : Nat} {e : TypeId} {k : IntKind} {cs : List Value} {x : DataW H × List MemPlace} (he : P.underlying e = some (.int k)) (h : DataW.trod enc P W base sp held fuel e cs = some x) :
    ∃ a, cs = [.int k a] ∧ (Lit.int k a).wf = true := by
  obtain ⟨a, h1, h2, h3⟩ := DataW.trod_int he h
  exact ⟨a, h1, h3⟩
/-- an array of whole numbers by value -/
theorem open_ints_arr {t e : TypeId} {n : Nat} {k : IntKind} (hu : P.underlying t = some (.array n e)) (he : P.underlying e = some (.int k)) (h1 : P.cellsOf e = 1) (hn : P.cellsOf t = n)
    {r : Reach} {b0 : Nat} {v : Value} {d : DataW H} {ps : List MemPlace} (hv : Value.okWide P W r b0 t v) (hd : DataW.Trod enc P W base sp held t v d ps) :
    ∃ l : List Int, l.length = n ∧ v = .agg (l.map (Value.int k)).toArray ∧ ∀ x ∈ l, (Lit.int k x).wf = true := by
  simp only [Value.okWide, hu] at hv
  obtain ⟨cs, rfl, hs, _⟩ := hv
  rw [hn] at hs
  obtain ⟨fuel, hf⟩ := hd
  cases fuel with
  | zero => simp [DataW.trod] at hf
  | succ m =>
    rw [DataW.trod_step] at hf
    unfold DataW.trodStep at hf
    simp only [hu, Value.cells, hn, h1] at hf
    rw [if_pos (by simpa using hs)] at hf
    simp only [Option.map_eq_some_iff] at hf
    obtain ⟨ys, hy, _⟩ := hf
    obtain ⟨_, hall⟩ := mapM_all hy
    have key : ∀ i (h : i < cs.toList.length), ∃ a, cs.toList[i] = .int k a ∧ (Lit.int k a).wf = true := by
      intro i hi
      have hi' : i < n := by rw [← hs]; simpa using hi
      obtain ⟨y, g1, _⟩ := hall i (by simpa using hi')
      simp only [List.getElem_range, Nat.mul_one] at g1
      obtain ⟨a, e1, e2⟩ := trod_int' he g1
      have : (cs.toList.drop i).take 1 = [cs.toList[i]] := by
        rw [List.drop_eq_getElem_cons hi]; rfl
      rw [this] at e1
      simp only [List.cons.injEq, and_true] at e1
      exact ⟨a, e1, e2⟩
    clear hall hy
    have : ∀ l : List Value, (∀ i (h : i < l.length), ∃ a, l[i] = .int k a ∧ (Lit.int k a).wf = true) → ∃ m : List Int, l = m.map (Value.int k) ∧ ∀ x ∈ m, (Lit.int k x).wf = true := by
      intro l
      induction l with
      | nil => intro _; exact ⟨[], rfl, by simp⟩
      | cons c l ih =>
        intro hk
        obtain ⟨a, e1, e2⟩ := hk 0 (by simp)
        obtain ⟨m, e3, e4⟩ := ih fun i hi => by have := hk (i + 1) (by simpa using hi); simpa only [List.getElem_cons_succ] using this
        refine ⟨a :: m, ?_, ?_⟩
        · simp at e1; subst e1; simp [e3]
        · intro x hx
          rcases List.mem_cons.1 hx with rfl | hx
          · exact e2
          · exact e4 x hx
    obtain ⟨m, e3, e4⟩ := this _ key
    refine ⟨m, ?_, ?_, e4⟩
    · have := congrArg List.length e3
      simp [hs] at this
      exact this.symm
    · congr 1
      apply Array.ext'
      simpa using e3
end
end Sh
end Go.Proofs.Ytnckcgpmidgggaa
