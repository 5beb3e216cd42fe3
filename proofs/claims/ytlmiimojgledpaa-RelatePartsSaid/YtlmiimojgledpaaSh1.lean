/- The first layer of the shallow reading of Go code: environments as functions, predicate transformers, and the laws that carry a walk over a code's text. -/
import Derived.Orders
import Derived.OrdersHeld
import Derived.KernelRfl
namespace Go.Proofs.Ytlmiimojgledpaa
namespace Sh

/-- A piece of code, read as: what must hold so that from this world it comes to a value and a world of which Q holds. -/
abbrev M := World → (Value → World → Prop) → Prop

def upd (ρ : Nat → Value) (d : Nat) (v : Value) : Nat → Value := fun t => bif Nat.beq t d then v else ρ t
def act (N : Nat) (ρ : Nat → Value) : Act := { tmps := Array.ofFn (n := N) fun i => ρ i, defers := [] }
def ini (l : List Value) : Nat → Value := fun t => l.getD t undef
def opv (N : Nat) (ρ : Nat → Value) : Operand → Value
  | .tmp t => bif Nat.blt t N then ρ t else undef
  | .const v => v
  | .global g => .pointer (some ⟨g, 0, none⟩)
  | .func f => .func (.func f) #[] #[]

section
variable {P : Program} {N : Nat} {ρ : Nat → Value} {w : World}

theorem put_act (d : Nat) (v : Value) : (act N ρ).put (some d) v = act N (upd ρ d v) := by
  simp only [act, Act.put]
  congr 1
  apply Array.ext
  · simp
  · intro i h1 h2
    simp only [Array.size_setIfInBounds, Array.size_ofFn] at h1
    by_cases e : d = i
    · subst e
      simp [upd]
    · rw [Array.getElem_setIfInBounds_ne (by simpa using h1) e]
      simp only [Array.getElem_ofFn]
      have : Nat.beq i d = false := by
        cases hb : Nat.beq i d with
        | false => rfl
        | true => exact absurd (Nat.eq_of_beq_eq_true hb).symm e
      simp [upd, this]

theorem tmps_act (t : Nat) : (act N ρ).tmps.getD t undef = bif Nat.blt t N then ρ t else undef := by
  simp only [act]
  by_cases h : t < N
  · have : Nat.blt t N = true := by simpa using h
    simp [this, Array.getD, h]
  · have : Nat.blt t N = false := by
      cases hb : Nat.blt t N with
      | false => rfl
      | true => exact absurd (by simpa using hb) h
    simp [this, Array.getD, h]

theorem eval_act : (act N ρ).eval = opv N ρ := by
  funext x
  cases x with
  | tmp t => exact tmps_act t
  | _ => rfl

theorem ini_act {l : List Value} {n : Nat} (h : l.length ≤ n) : ({ tmps := l.toArray ++ Array.replicate (n - l.length) undef, defers := [] } : Act) = act n (ini l) := by
  simp only [act]
  congr 1
  apply Array.ext
  · simp; omega
  · intro i h1 h2
    simp at h1 h2
    simp only [Array.getElem_ofFn, ini]
    by_cases e : i < l.length
    · rw [Array.getElem_append_left (by simpa using e)]
      simp [List.getD, e]
    · rw [Array.getElem_append_right (by simpa using Nat.le_of_not_lt e)]
      simp [List.getD, e]

/-- What a call comes to: it returns, and of its value and world this holds. -/
def Rt (Q : Value → World → Prop) : Ending → World → Prop
  | .returned v, w => Q v w
  | _, _ => False

theorem calls_of {f : FuncId} {fn : Func} {c : Code} {l : List Value} {Q : Value → World → Prop} (hf : P.funcs[f]? = some fn) (hb : fn.body = some c) (hn : fn.ntmps = N) (hl : l.length ≤ N)
    (h : c.wp P (bodyPost P fn (Rt Q)) (act N (ini l)) w) : Calls P f l.toArray w (Rt Q) := by
  refine calls_of_wp hf hb ?_
  rw [hn, show l.toArray.size = l.length from by simp, ini_act hl]
  exact h

/-! ### regions whose order is the text's -/
def wpL (P : Program) (all : Array Oper) (Q : Exit → Act → World → Prop) : List Oper → Act → World → Prop
  | [], a, w => Q .normal a w
  | o :: r, a, w => if Region.wanted o (yielded all a.tmps) then o.wp P a w (wpL P all Q r) Q else wpL P all Q r (a.put o.dst undef) w

theorem wpOps_of_wpL {all : Array Oper} {Q : Exit → Act → World → Prop} : ∀ (l : List Oper) (k : Nat) (a : Act) (w : World), (∀ j, l[j]? = all[k + j]?) → wpL P all Q l a w → wpOps P all Q (List.range' k l.length) a w := by
  intro l
  induction l with
  | nil => intro k a w _ h; exact h
  | cons o l ih =>
    intro k a w hl h
    have h0 : all[k]? = some o := by simpa using (hl 0).symm
    simp only [List.length_cons, List.range'_succ, wpOps, h0]
    have hn : ∀ j, l[j]? = all[k + 1 + j]? := fun j => by have := hl (j + 1); simpa [Nat.add_assoc, Nat.add_comm 1 j] using this
    simp only [wpL] at h
    split
    · rename_i hw
      rw [if_pos hw] at h
      exact .inl (Oper.wp_mono (fun a w => ih (k + 1) a w hn) h)
    · rename_i hw
      rw [if_neg hw] at h
      exact ih (k + 1) _ _ hn h

theorem L_region {id : Nat} {l : List Oper} {Q : Exit → Act → World → Prop} {a : Act} (h : wpL P l.toArray Q l a w) : (Code.region id l.toArray false).wp P Q a w := by
  refine wp_region ?_
  have := wpOps_of_wpL (P := P) (all := l.toArray) l 0 a w (by simp) h
  simpa [List.range_eq_range'] using this

theorem L_nil {all : Array Oper} {Q : Exit → Act → World → Prop} {a : Act} (h : Q .normal a w) : wpL P all Q [] a w := h

/-- One operation that is always carried out and yields a value. -/
theorem L_run {all : Array Oper} {Q : Exit → Act → World → Prop} {r : List Oper} {d : Nat} {op : Op} {ty : TypeId} {pos : String} {after : Array Edge} {v : Value} {w' : World}
    (hr : (execOp (opv N ρ) ⟨some d, op, ty, pos, after, none⟩).run P w = .ok (.value v) w')
    (h : wpL P all Q r (act N (upd ρ d v)) w') : wpL P all Q (⟨some d, op, ty, pos, after, none⟩ :: r) (act N ρ) w := by
  simp only [wpL, Region.wanted, if_true, Oper.wp, eval_act, hr, Oper.upon, put_act]
  exact h

theorem L_run_none {all : Array Oper} {Q : Exit → Act → World → Prop} {r : List Oper} {op : Op} {ty : TypeId} {pos : String} {after : Array Edge} {w' : World}
    (hr : (execOp (opv N ρ) ⟨none, op, ty, pos, after, none⟩).run P w = .ok .skip w')
    (h : wpL P all Q r (act N ρ) w') : wpL P all Q (⟨none, op, ty, pos, after, none⟩ :: r) (act N ρ) w := by
  simp only [wpL, Region.wanted, if_true, Oper.wp, eval_act, hr, Oper.upon, Act.put]
  exact h
end
end Sh
end Go.Proofs.Ytlmiimojgledpaa
