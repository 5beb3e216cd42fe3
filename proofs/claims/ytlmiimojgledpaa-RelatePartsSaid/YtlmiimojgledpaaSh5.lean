/- Regions whose order is open: reads may be taken first; what a read saw is to be shown anew behind each deed that may come ahead of it. -/
import Derived.Test.YtlmiimojgledpaaSh4
set_option linter.unusedSimpArgs false
set_option linter.unusedVariables false
namespace Go.Proofs.Ytlmiimojgledpaa
namespace Sh
/-- Q, but False at a panic. -/
def noP (Q : Exit → Act → World → Prop) : Exit → Act → World → Prop
  | .panic _, _, _ => False
  | e, a, w => Q e a w
theorem noP_imp {Q : Exit → Act → World → Prop} : ∀ (e : Exit) (a : Act) (w : World), noP Q e a w → Q e a w := fun e a w h => by
  cases e <;> first | exact h | exact (h : False).elim

/-- Operation j waits for i, directly or by others. -/
inductive Dep (ops : Array Oper) : Nat → Nat → Prop where
  | one {j i : Nat} {o : Oper} {e : Edge} : ops[j]? = some o → e ∈ o.after → Region.binds .any e = true → e.on = i → Dep ops j i
  | more {j i : Nat} {o : Oper} {e : Edge} : ops[j]? = some o → e ∈ o.after → Region.binds .any e = true → Dep ops e.on i → Dep ops j i
def pathB (ops : Array Oper) : Nat → List Nat → Bool
  | _, [] => false
  | j, [i] => match ops[j]? with
    | some o => o.after.any fun e => Region.binds .any e && e.on == i
    | none => false
  | j, k :: l => (match ops[j]? with
    | some o => o.after.any fun e => Region.binds .any e && e.on == k
    | none => false) && pathB ops k l
theorem edge_of {ops : Array Oper} {j k : Nat} (h : (match ops[j]? with
    | some o => o.after.any fun e => Region.binds .any e && e.on == k
    | none => false) = true) : ∃ o e, ops[j]? = some o ∧ e ∈ o.after ∧ Region.binds .any e = true ∧ e.on = k := by
  cases ho : ops[j]? with
  | none => simp [ho] at h
  | some o =>
    simp only [ho] at h
    obtain ⟨e, he, hb⟩ := Array.any_eq_true'.1 h
    simp only [Bool.and_eq_true, beq_iff_eq] at hb
    exact ⟨o, e, rfl, he, hb.1, hb.2⟩
theorem dep_path {ops : Array Oper} : ∀ (l : List Nat) (j : Nat), pathB ops j l = true → ∀ i, l.getLast? = some i → Dep ops j i := by
  intro l
  induction l with
  | nil => intro j h; simp [pathB] at h
  | cons k l ih =>
    intro j h i hi
    cases l with
    | nil =>
      simp at hi; subst hi
      obtain ⟨o, e, h1, h2, h3, h4⟩ := edge_of h
      exact .one h1 h2 h3 h4
    | cons k2 l =>
      simp only [pathB, Bool.and_eq_true] at h
      obtain ⟨o, e, h1, h2, h3, h4⟩ := edge_of h.1
      have := ih k h.2 i (by simpa [List.getLast?_cons_cons] using hi)
      subst h4
      exact .more h1 h2 h3 this
abbrev Facts := List (Nat × (World → Prop))
def keepF (ops : Array Oper) (fs : Facts) (j : Nat) (w w' : World) : Prop := ∀ p ∈ fs, ¬ Dep ops j p.1 → p.2 w → p.2 w'
def closedL (ops : Array Oper) (listed : Array Bool) : Prop := ∀ j o, ops[j]? = some o → listed.getD j false = true → ∀ e ∈ o.after, Region.binds .any e = true → listed.getD e.on false = true
section
variable {P : Program} {ops : Array Oper} {Q : Exit → Act → World → Prop}

def anyG (P : Program) (ops : Array Oper) (Q : Exit → Act → World → Prop) (fs : Facts) : Nat → Array Bool → Act → World → Prop
  | 0, listed, a, w => Region.ready .any ops listed = [] ∧ Q .normal a w
  | fuel + 1, listed, a, w =>
    (Region.ready .any ops listed = [] → Q .normal a w) ∧
    ∀ i ∈ Region.ready .any ops listed, wpOp P ops Q i (fun a' w' => keepF ops fs i w w' ∧ anyG P ops Q fs fuel (listed.setIfInBounds i true) a' w') a w
theorem any_of_G {fs : Facts} : ∀ (fuel : Nat) (listed : Array Bool) (a : Act) (w : World), anyG P ops Q fs fuel listed a w → wpAny P .any ops Q fuel listed a w
  | 0, _, _, _, h => h
  | fuel + 1, _, _, _, h => ⟨h.1, fun i hi => wpOp_mono (fun a' w' h' => any_of_G fuel _ a' w' h'.2) (h.2 i hi)⟩
theorem anyG_sub {fs fs' : Facts} (hs : ∀ p ∈ fs, p ∈ fs' ∨ ∀ w, p.2 w) : ∀ (fuel : Nat) (listed : Array Bool) (a : Act) (w : World), anyG P ops Q fs' fuel listed a w → anyG P ops Q fs fuel listed a w
  | 0, _, _, _, h => h
  | fuel + 1, _, _, _, h => ⟨h.1, fun i hi => wpOp_mono (fun a' w' h' => ⟨fun p hp hd hw => (hs p hp).elim (fun hp' => h'.1 p hp' hd hw) (fun ht => ht w'), anyG_sub hs fuel _ a' w' h'.2⟩) (h.2 i hi)⟩

theorem dep_listed {listed : Array Bool} (hc : closedL ops listed) {j i : Nat} (hd : Dep ops j i) : ∀ o, ops[j]? = some o → (∀ e ∈ o.after, Region.binds .any e = true → listed.getD e.on false = true) → listed.getD i false = true := by
  induction hd with
  | one h1 h2 h3 h4 =>
    intro o ho hall
    rw [h1] at ho; cases ho
    rw [← h4]; exact hall _ h2 h3
  | more h1 h2 h3 h4 ih =>
    intro o ho hall
    rw [h1] at ho; cases ho
    have hl := hall _ h2 h3
    cases h4 with
    | one k1 k2 k3 k4 => exact ih _ k1 (fun e' he' hb' => hc _ _ k1 hl e' he' hb')
    | more k1 k2 k3 k4 => exact ih _ k1 (fun e' he' hb' => hc _ _ k1 hl e' he' hb')

theorem closedL_set {listed : Array Bool} {i : Nat} (hc : closedL ops listed) (hr : i ∈ Region.ready .any ops listed) : closedL ops (listed.setIfInBounds i true) := by
  intro j o ho hl e he hb
  by_cases hji : i = j
  · subst hji
    obtain ⟨_, o', ho', hall⟩ := mem_ready.1 hr
    rw [ho] at ho'; cases ho'
    exact getD_set_true (hall e he hb)
  · rw [getD_set_ne false hji] at hl
    exact getD_set_true (hc j o ho hl e he hb)

/-- An operation that may come up now may be taken first. -/
theorem anyG_first {fs : Facts} {F : World → Prop} {i : Nat} {oi : Oper} {v : Value} (hi : ops[i]? = some oi) (hsel : ∀ (j : Nat) (o : Oper) cs b, ops[j]? = some o → o.op ≠ .select cs b)
    (hQ : ∀ c a w, Q (.panic c) (a.put oi.dst v) w → Q (.panic c) a w) :
    ∀ (fuel : Nat) (listed : Array Bool) (a : Act) (w : World), closedL ops listed →
      (∀ j oj, ops[j]? = some oj → j ≠ i → listed.getD j true = false → (∀ e ∈ oj.after, Region.binds .any e = true → e.on ≠ i) → oi.apart ops oj = true) →
      i ∈ Region.ready .any ops listed → YieldsIf P ops F oi v a → F w →
      anyG P ops Q ((i, F) :: fs) fuel (listed.setIfInBounds i true) (a.put oi.dst v) w → anyG P ops Q fs (fuel + 1) listed a w := by
  intro fuel
  induction fuel with
  | zero =>
    intro listed a w hcl _ hr hy hF H
    refine ⟨fun h => (by rw [h] at hr; cases hr), fun j hj => ?_⟩
    by_cases hji : j = i
    · subst hji; exact hy.wpOp hi hF ⟨fun p hp _ hw => hw, anyG_sub (fun p hp => .inl (.tail _ hp)) _ _ _ _ H⟩
    · have := ready_mono hj hji
      rw [H.1] at this
      cases this
  | succ fuel ih =>
    intro listed a w hcl hfree hr hy hF H
    refine ⟨fun h => (by rw [h] at hr; cases hr), fun j hj => ?_⟩
    by_cases hji : j = i
    · subst hji; exact hy.wpOp hi hF ⟨fun p hp _ hw => hw, anyG_sub (fun p hp => .inl (.tail _ hp)) _ _ _ _ H⟩
    · have h1 := H.2 j (ready_mono hj hji)
      obtain ⟨hjun, oj, hoj, hall⟩ := mem_ready.1 hj
      have hiun : listed.getD i false = false := by
        have h0 := (mem_ready.1 hr).1
        rcases Nat.lt_or_ge i listed.size with h' | h'
        · simp [h'] at h0 ⊢; exact h0
        · simp [Array.getElem?_eq_none h']
      have hnot : ∀ e ∈ oj.after, Region.binds .any e = true → e.on ≠ i := fun e he hb heq => by
        have h1 := hall e he hb
        rw [heq, hiun] at h1
        cases h1
      have hdep : ¬ Dep ops j i := fun hd => by
        have := dep_listed hcl hd _ hoj hall; rw [hiun] at this; cases this
      have h2 := wpOp_putIf hoj (hfree j oj hoj hji hjun hnot) (fun cs b => hsel i oi cs b hi) (fun cs b => hsel j oj cs b hoj) hQ hy h1
      have hfree' : ∀ k ok, ops[k]? = some ok → k ≠ i → (listed.setIfInBounds j true).getD k true = false →
          (∀ e ∈ ok.after, Region.binds .any e = true → e.on ≠ i) → oi.apart ops ok = true := fun k ok hk hki hun hno => by
        refine hfree k ok hk hki ?_ hno
        by_cases hjk : j = k
        · subst hjk; exact hjun
        · rw [getD_set_ne true hjk] at hun; exact hun
      refine wpOp_mono (fun a' w' h3 => ?_) h2
      obtain ⟨hy', hk, hG⟩ := h3
      refine ⟨fun p hp hd hw => hk p (.tail _ hp) hd hw, ih (listed.setIfInBounds j true) a' w' (closedL_set hcl hj) hfree' (ready_mono hr (Ne.symm hji)) hy' (hk (i, F) (.head _) hdep hF) ?_⟩
      rw [Array.setIfInBounds_comm _ _ hji]
      exact hG

theorem closedL_of {listed : Array Bool} (h : ((List.range ops.size).all fun j => match ops[j]? with
    | some o => !listed.getD j false || o.after.all fun e => !Region.binds .any e || listed.getD e.on false
    | none => true) = true) : closedL ops listed := by
  intro j o ho hl e he hb
  have hj : j < ops.size := (Array.getElem?_eq_some_iff.1 ho).1
  have h1 := List.all_eq_true.1 h j (List.mem_range.2 hj)
  simp only [ho, hl, Bool.not_true, Bool.false_or] at h1
  have h2 := Array.all_eq_true_iff_forall_mem.1 h1 e he
  simpa [hb] using h2
/-- The look at a step that is taken first. -/
def stepB (ops : Array Oper) (listed : Array Bool) (i : Nat) : Bool :=
  Region.noSelect ops && Region.free .any ops listed i && (Region.ready .any ops listed).contains i &&
  ((List.range ops.size).all fun j => match ops[j]? with
    | some o => !listed.getD j false || o.after.all fun e => !Region.binds .any e || listed.getD e.on false
    | none => true)
theorem anyG_take {fs : Facts} {F : World → Prop} {i : Nat} {oi : Oper} {v : Value} {fuel : Nat} {listed : Array Bool} {a : Act} {w : World} (hi : ops[i]? = some oi) (hs : stepB ops listed i = true)
    (hy : YieldsIf P ops F oi v a) (hF : F w) (h : anyG P ops (noP Q) ((i, F) :: fs) fuel (listed.setIfInBounds i true) (a.put oi.dst v) w) : anyG P ops (noP Q) fs (fuel + 1) listed a w := by
  simp only [stepB, Bool.and_eq_true] at hs
  obtain ⟨⟨⟨h1, h2⟩, h3⟩, h4⟩ := hs
  exact anyG_first hi (Region.noSelect_spec h1) (fun _ _ _ h => h.elim) fuel listed a w (closedL_of h4) (Region.free_spec hi h2) (by simpa using h3) hy hF h

variable {N : Nat} {ρ : Nat → Value} {w : World} {d : Nat} {ty : TypeId} {pos : String} {aft : Array Edge} {Qm : Value → World → Prop} {K : Value → M} {K0 : M} {fs : Facts} {fuel : Nat} {listed : Array Bool}

/-- an operation that looks at no memory -/
theorem G_p {op : Op} (i : Nat) (hi : ops[i]? = some ⟨some d, op, ty, pos, aft, none⟩) (hs : stepB ops listed i = true)
    (hy : ∃ v, (∀ w', (execOp (opv N ρ) ⟨some d, op, ty, pos, aft, none⟩).run P w' = .ok (.value v) w') ∧ K v w Qm)
    (c : ∀ v, K v w Qm → anyG P ops (noP Q) fs fuel (listed.setIfInBounds i true) (act N (upd ρ d v)) w) : anyG P ops (noP Q) fs (fuel + 1) listed (act N ρ) w := by
  obtain ⟨v, hr, hk⟩ := hy
  refine anyG_sub (fs' := fs) (fun p hp => .inl hp) _ _ _ _ (anyG_take (F := fun _ => True) (v := v) hi hs (.inl ⟨rfl, fun w' _ => by rw [eval_act]; exact hr w'⟩) trivial ?_)
  refine anyG_sub (fs' := fs) (fun p hp => ?_) _ _ _ _ (by rw [put_act]; exact c v hk)
  rcases List.mem_cons.1 hp with rfl | hp
  · exact .inr fun _ => trivial
  · exact .inl hp
theorem G_pg {op : Op} {A : (Value → M) → M} {t j : Nat} {want : Bool} (i : Nat) (hi : ops[i]? = some ⟨some d, op, ty, pos, aft, some (j, want)⟩) (hs : stepB ops listed i = true)
    (h : gd (ρ t) want A K w Qm) (hj : (ops[j]?).bind (·.dst) = some t) (ht : Nat.blt t N = true)
    (hy : A K w Qm → ∃ v, (∀ w', (execOp (opv N ρ) ⟨some d, op, ty, pos, aft, some (j, want)⟩).run P w' = .ok (.value v) w') ∧ K v w Qm)
    (c : ∀ v, K v w Qm → anyG P ops (noP Q) fs fuel (listed.setIfInBounds i true) (act N (upd ρ d v)) w) : anyG P ops (noP Q) fs (fuel + 1) listed (act N ρ) w := by
  have key : ∃ v, YieldsIf P ops (fun _ => True) ⟨some d, op, ty, pos, aft, some (j, want)⟩ v (act N ρ) ∧ K v w Qm := by
    unfold gd at h
    cases hb : gdB (ρ t) want <;> rw [hb] at h
    · exact ⟨undef, .inr ⟨by rw [wanted_act hj ht]; exact hb, rfl⟩, h⟩
    · obtain ⟨v, hr, hk⟩ := hy h
      exact ⟨v, .inl ⟨by rw [wanted_act hj ht]; exact hb, fun w' _ => by rw [eval_act]; exact hr w'⟩, hk⟩
  obtain ⟨v, hyy, hk⟩ := key
  refine anyG_sub (fs' := fs) (fun p hp => .inl hp) _ _ _ _ (anyG_take (F := fun _ => True) (v := v) hi hs hyy trivial ?_)
  refine anyG_sub (fs' := fs) (fun p hp => ?_) _ _ _ _ (by rw [put_act]; exact c v hk)
  rcases List.mem_cons.1 hp with rfl | hp
  · exact .inr fun _ => trivial
  · exact .inl hp
/-- an operation that reads memory -/
theorem G_r {op : Op} (F : Value → World → Prop) (i : Nat) (hi : ops[i]? = some ⟨some d, op, ty, pos, aft, none⟩) (hs : stepB ops listed i = true)
    (hy : ∃ v, F v w ∧ (∀ w', F v w' → (execOp (opv N ρ) ⟨some d, op, ty, pos, aft, none⟩).run P w' = .ok (.value v) w') ∧ K v w Qm)
    (c : ∀ v, K v w Qm → anyG P ops (noP Q) ((i, F v) :: fs) fuel (listed.setIfInBounds i true) (act N (upd ρ d v)) w) : anyG P ops (noP Q) fs (fuel + 1) listed (act N ρ) w := by
  obtain ⟨v, hF, hr, hk⟩ := hy
  exact anyG_take (F := F v) (v := v) hi hs (.inl ⟨rfl, fun w' hw' => by rw [eval_act]; exact hr w' hw'⟩) hF (by rw [put_act]; exact c v hk)
theorem G_rg {op : Op} {A : (Value → M) → M} {t j : Nat} {want : Bool} (F : Value → World → Prop) (i : Nat) (hi : ops[i]? = some ⟨some d, op, ty, pos, aft, some (j, want)⟩) (hs : stepB ops listed i = true)
    (h : gd (ρ t) want A K w Qm) (hj : (ops[j]?).bind (·.dst) = some t) (ht : Nat.blt t N = true)
    (hy : A K w Qm → ∃ v, F v w ∧ (∀ w', F v w' → (execOp (opv N ρ) ⟨some d, op, ty, pos, aft, some (j, want)⟩).run P w' = .ok (.value v) w') ∧ K v w Qm)
    (c : ∀ v, K v w Qm → anyG P ops (noP Q) ((i, fun w' => gdB (ρ t) want = true → F v w') :: fs) fuel (listed.setIfInBounds i true) (act N (upd ρ d v)) w) : anyG P ops (noP Q) fs (fuel + 1) listed (act N ρ) w := by
  unfold gd at h
  cases hb : gdB (ρ t) want <;> rw [hb] at h
  · exact anyG_take (F := fun w' => gdB (ρ t) want = true → F undef w') (v := undef) hi hs (.inr ⟨by rw [wanted_act hj ht]; exact hb, rfl⟩) (by rw [hb]; exact fun h => by cases h) (by rw [put_act]; exact c _ h)
  · obtain ⟨v, hF, hr, hk⟩ := hy h
    exact anyG_take (F := fun w' => gdB (ρ t) want = true → F v w') (v := v) hi hs (.inl ⟨by rw [wanted_act hj ht]; exact hb, fun w' hw' => by rw [eval_act]; exact hr w' (hw' hb)⟩) (fun _ => hF) (by rw [put_act]; exact c v hk)
/-- a deed that alone may come up -/
theorem G_e {op : Op} {dst : Option Tmp} (i : Nat) (hi : ops[i]? = some ⟨dst, op, ty, pos, aft, none⟩) (hr : Region.ready .any ops listed = [i])
    (h : Oper.wp P ⟨dst, op, ty, pos, aft, none⟩ (act N ρ) w (fun a' w' => keepF ops fs i w w' ∧ anyG P ops (noP Q) fs fuel (listed.setIfInBounds i true) a' w') (noP Q)) : anyG P ops (noP Q) fs (fuel + 1) listed (act N ρ) w := by
  refine ⟨(fun h0 => by rw [hr] at h0; cases h0), fun j hj => ?_⟩
  rw [hr] at hj
  simp only [List.mem_singleton] at hj
  subst hj
  simp only [wpOp, hi, Region.wanted, if_true]
  exact .inl h
theorem G_eg {op : Op} {A : (Value → M) → M} {t j : Nat} {want : Bool} (i : Nat) (hi : ops[i]? = some ⟨some d, op, ty, pos, aft, some (j, want)⟩) (hr : Region.ready .any ops listed = [i])
    (h : gd (ρ t) want A K w Qm) (hj : (ops[j]?).bind (·.dst) = some t) (ht : Nat.blt t N = true)
    (hp : (∀ v w', K v w' Qm → keepF ops fs i w w' ∧ anyG P ops (noP Q) fs fuel (listed.setIfInBounds i true) (act N (upd ρ d v)) w') → A K w Qm → Oper.wp P ⟨some d, op, ty, pos, aft, some (j, want)⟩ (act N ρ) w (fun a' w' => keepF ops fs i w w' ∧ anyG P ops (noP Q) fs fuel (listed.setIfInBounds i true) a' w') (noP Q))
    (c : ∀ v w', K v w' Qm → keepF ops fs i w w' ∧ anyG P ops (noP Q) fs fuel (listed.setIfInBounds i true) (act N (upd ρ d v)) w') : anyG P ops (noP Q) fs (fuel + 1) listed (act N ρ) w := by
  refine ⟨(fun h0 => by rw [hr] at h0; cases h0), fun k hk => ?_⟩
  rw [hr] at hk
  simp only [List.mem_singleton] at hk
  subst hk
  simp only [wpOp, hi, wanted_act hj ht]
  unfold gd at h
  cases hb : gdB (ρ t) want <;> rw [hb] at h
  · simp only [Bool.false_eq_true, if_false, put_act]; exact c _ _ h
  · simp only [if_true]; exact .inl (hp c h)
/-- two deeds neither of which waits for the other -/
def amb (A B : M) : M := fun w Q => A w Q ∧ B w Q
theorem G_two {i j : Nat} (hr : Region.ready .any ops listed = [i, j]) {a : Act}
    (h1 : wpOp P ops (noP Q) i (fun a' w' => keepF ops fs i w w' ∧ anyG P ops (noP Q) fs fuel (listed.setIfInBounds i true) a' w') a w)
    (h2 : wpOp P ops (noP Q) j (fun a' w' => keepF ops fs j w w' ∧ anyG P ops (noP Q) fs fuel (listed.setIfInBounds j true) a' w') a w) : anyG P ops (noP Q) fs (fuel + 1) listed a w := by
  refine ⟨(fun h0 => by rw [hr] at h0; cases h0), fun k hk => ?_⟩
  rw [hr] at hk
  simp only [List.mem_cons, List.not_mem_nil, or_false] at hk
  rcases hk with rfl | rfl
  · exact h1
  · exact h2
theorem G_op {op : Op} {dst : Option Tmp} {i : Nat} {X : Act → World → Prop} (hi : ops[i]? = some ⟨dst, op, ty, pos, aft, none⟩) (h : Oper.wp P ⟨dst, op, ty, pos, aft, none⟩ (act N ρ) w X (noP Q)) : wpOp P ops (noP Q) i X (act N ρ) w := by
  simp only [wpOp, hi, Region.wanted, if_true]; exact .inl h
theorem G_opg {op : Op} {A : (Value → M) → M} {t j i : Nat} {want : Bool} {X : Act → World → Prop} (hi : ops[i]? = some ⟨some d, op, ty, pos, aft, some (j, want)⟩)
    (h : gd (ρ t) want A K w Qm) (hj : (ops[j]?).bind (·.dst) = some t) (ht : Nat.blt t N = true)
    (hp : (∀ v w', K v w' Qm → X (act N (upd ρ d v)) w') → A K w Qm → Oper.wp P ⟨some d, op, ty, pos, aft, some (j, want)⟩ (act N ρ) w X (noP Q))
    (c : ∀ v w', K v w' Qm → X (act N (upd ρ d v)) w') : wpOp P ops (noP Q) i X (act N ρ) w := by
  simp only [wpOp, hi, wanted_act hj ht]
  unfold gd at h
  cases hb : gdB (ρ t) want <;> rw [hb] at h
  · simp only [Bool.false_eq_true, if_false, put_act]; exact c _ _ h
  · simp only [if_true]; exact .inl (hp c h)
theorem G_done {a : Act} (hr : Region.ready .any ops listed = []) (h : Q .normal a w) : anyG P ops (noP Q) fs fuel listed a w := by
  cases fuel with
  | zero => exact ⟨hr, h⟩
  | succ n => exact ⟨fun _ => h, by rw [hr]; simp⟩
/-- what is to be shown anew behind a deed -/
def kp (F : World → Prop) (K0 : M) : M := fun w Q => F w ∧ K0 w Q
theorem keepF_nil {j : Nat} {w w' : World} : keepF ops [] j w w' := fun _ h => by cases h
theorem keepF_cons {i j : Nat} {F : World → Prop} {w w' : World} (h : F w') (h' : keepF ops fs j w w') : keepF ops ((i, F) :: fs) j w w' := by
  intro p hp hd hw
  rcases List.mem_cons.1 hp with rfl | hp
  · exact h
  · exact h' p hp hd hw
theorem keepF_dep {i j : Nat} {F : World → Prop} {w w' : World} (l : List Nat) (h : pathB ops j l = true) (hl : l.getLast? = some i) (h' : keepF ops fs j w w') : keepF ops ((i, F) :: fs) j w w' := by
  intro p hp hd hw
  rcases List.mem_cons.1 hp with rfl | hp
  · exact absurd (dep_path l j h _ hl) hd
  · exact h' p hp hd hw
theorem D_region {id : Nat} {l : List Oper} {a : Act} (hm : P.follows .mixedOrders = true) (n : Nat) (hn : l.length = n)
    (h : anyG P l.toArray (noP Q) [] n (Array.replicate n false) a (drw w)) : (Code.region id l.toArray true).wp P Q a w := by
  refine wp_mono (Q := noP Q) (wp_region_any hm ?_) noP_imp
  have := any_of_G _ _ _ _ h
  subst hn
  simpa [drw] using this
end
end Sh
end Go.Proofs.Ytlmiimojgledpaa
