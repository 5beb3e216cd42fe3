/- The first layer of the shallow reading of Go code: environments as functions, predicate transformers, and the laws that carry a walk over a code's text. -/
import Derived.Orders
import Derived.OrdersHeld
import Derived.KernelRfl
import Derived.Laws.Sem
import Derived.Laws.Cells
import Derived.Laws.Strings
import Derived.Below
import Derived.Laws.AppendOwn
import Derived.Laws.OwnMore
import Derived.Test.YtlmiimojgledpaaProg
set_option linter.unusedVariables false
set_option linter.unusedSimpArgs false
set_option linter.unusedSectionVars false
namespace Go.Proofs.Ytlmiimojgledpaa
namespace Sh

/-- A piece of code, read as: what must hold so that from this world it comes to a value and a world of which Q holds. -/
abbrev M := World → (Value → World → Prop) → Prop

def upd (ρ : Nat → Value) (d : Nat) (v : Value) : Nat → Value := fun t => bif Nat.beq t d then v else ρ t
def act (N : Nat) (ρ : Nat → Value) : Act := { tmps := Array.ofFn (n := N) fun i => ρ i, defers := [] }
def ini (l : List Value) : Nat → Value := fun t => l.getD t undef
def opv (N : Nat) (ρ : Nat → Value) : Operand → Value
  | .tmp t => bif Nat.blt t N then ρ t else undef
  | .const v => v
  | .global g => .pointer (some ⟨g, 0, none⟩)
  | .func f => .func (.func f) #[] #[]

section
variable {P : Program} {N : Nat} {ρ : Nat → Value} {w : World}

theorem put_act (d : Nat) (v : Value) : (act N ρ).put (some d) v = act N (upd ρ d v) := by
  simp only [act, Act.put]
  congr 1
  apply Array.ext
  · simp
  · intro i h1 h2
    simp only [Array.size_setIfInBounds, Array.size_ofFn] at h1
    by_cases e : d = i
    · subst e
      simp [upd]
    · rw [Array.getElem_setIfInBounds_ne (by simpa using h1) e]
      simp only [Array.getElem_ofFn]
      have : Nat.beq i d = false := by
        cases hb : Nat.beq i d with
        | false => rfl
        | true => exact absurd (Nat.eq_of_beq_eq_true hb).symm e
      simp [upd, this]

theorem tmps_act (t : Nat) : (act N ρ).tmps.getD t undef = bif Nat.blt t N then ρ t else undef := by
  simp only [act]
  by_cases h : t < N
  · have : Nat.blt t N = true := by simpa using h
    simp [this, Array.getD, h]
  · have : Nat.blt t N = false := by
      cases hb : Nat.blt t N with
      | false => rfl
      | true => exact absurd (by simpa using hb) h
    simp [this, Array.getD, h]

theorem eval_act : (act N ρ).eval = opv N ρ := by
  funext x
  cases x with
  | tmp t => exact tmps_act t
  | _ => rfl

theorem ini_act {l : List Value} {n : Nat} (h : l.length ≤ n) : ({ tmps := l.toArray ++ Array.replicate (n - l.length) undef, defers := [] } : Act) = act n (ini l) := by
  simp only [act]
  congr 1
  apply Array.ext
  · simp; omega
  · intro i h1 h2
    simp at h1 h2
    simp only [Array.getElem_ofFn, ini]
    by_cases e : i < l.length
    · rw [Array.getElem_append_left (by simpa using e)]
      simp [List.getD, e]
    · rw [Array.getElem_append_right (by simpa using Nat.le_of_not_lt e)]
      simp [List.getD, e]

/-- What a call comes to: it returns, and of its value and world this holds. -/
def Rt (Q : Value → World → Prop) : Ending → World → Prop
  | .returned v, w => Q v w
  | _, _ => False

theorem calls_of {f : FuncId} {fn : Func} {c : Code} {l : List Value} {Q : Value → World → Prop} (hf : P.funcs[f]? = some fn) (hb : fn.body = some c) (hn : fn.ntmps = N) (hl : l.length ≤ N)
    (h : c.wp P (bodyPost P fn (Rt Q)) (act N (ini l)) w) : Calls P f l.toArray w (Rt Q) := by
  refine calls_of_wp hf hb ?_
  rw [hn, show l.toArray.size = l.length from by simp, ini_act hl]
  exact h

/-! ### regions whose order is the text's -/
def wpL (P : Program) (all : Array Oper) (Q : Exit → Act → World → Prop) : List Oper → Act → World → Prop
  | [], a, w => Q .normal a w
  | o :: r, a, w => if Region.wanted o (yielded all a.tmps) then o.wp P a w (wpL P all Q r) Q else wpL P all Q r (a.put o.dst undef) w

theorem wpOps_of_wpL {all : Array Oper} {Q : Exit → Act → World → Prop} : ∀ (l : List Oper) (k : Nat) (a : Act) (w : World), (∀ j, l[j]? = all[k + j]?) → wpL P all Q l a w → wpOps P all Q (List.range' k l.length) a w := by
  intro l
  induction l with
  | nil => intro k a w _ h; exact h
  | cons o l ih =>
    intro k a w hl h
    have h0 : all[k]? = some o := by simpa using (hl 0).symm
    simp only [List.length_cons, List.range'_succ, wpOps, h0]
    have hn : ∀ j, l[j]? = all[k + 1 + j]? := fun j => by have := hl (j + 1); simpa [Nat.add_assoc, Nat.add_comm 1 j] using this
    simp only [wpL] at h
    split
    · rename_i hw
      rw [if_pos hw] at h
      exact .inl (Oper.wp_mono (fun a w => ih (k + 1) a w hn) h)
    · rename_i hw
      rw [if_neg hw] at h
      exact ih (k + 1) _ _ hn h

theorem L_region {id : Nat} {l : List Oper} {Q : Exit → Act → World → Prop} {a : Act} (h : wpL P l.toArray Q l a w) : (Code.region id l.toArray false).wp P Q a w := by
  refine wp_region ?_
  have := wpOps_of_wpL (P := P) (all := l.toArray) l 0 a w (by simp) h
  simpa [List.range_eq_range'] using this

theorem L_nil {all : Array Oper} {Q : Exit → Act → World → Prop} {a : Act} (h : Q .normal a w) : wpL P all Q [] a w := h

/-- One operation that is always carried out and yields a value. -/
theorem L_run {all : Array Oper} {Q : Exit → Act → World → Prop} {r : List Oper} {d : Nat} {op : Op} {ty : TypeId} {pos : String} {after : Array Edge} {v : Value} {w' : World}
    (hr : (execOp (opv N ρ) ⟨some d, op, ty, pos, after, none⟩).run P w = .ok (.value v) w')
    (h : wpL P all Q r (act N (upd ρ d v)) w') : wpL P all Q (⟨some d, op, ty, pos, after, none⟩ :: r) (act N ρ) w := by
  simp only [wpL, Region.wanted, if_true, Oper.wp, eval_act, hr, Oper.upon, put_act]
  exact h

theorem L_run_none {all : Array Oper} {Q : Exit → Act → World → Prop} {r : List Oper} {op : Op} {ty : TypeId} {pos : String} {after : Array Edge} {w' : World}
    (hr : (execOp (opv N ρ) ⟨none, op, ty, pos, after, none⟩).run P w = .ok .skip w')
    (h : wpL P all Q r (act N ρ) w') : wpL P all Q (⟨none, op, ty, pos, after, none⟩ :: r) (act N ρ) w := by
  simp only [wpL, Region.wanted, if_true, Oper.wp, eval_act, hr, Oper.upon, Act.put]
  exact h
end
end Sh
end Go.Proofs.Ytlmiimojgledpaa

namespace Go.Proofs.Ytlmiimojgledpaa
namespace Sh
/-- One block more. -/
def psh (w : World) (o : Obj) : World := { w with heap := w.heap.push o }
/-- One draw more. -/
def drw (w : World) : World := { w with drawn := w.drawn + 1 }
/-- A block's new content. -/
def sb (w : World) (b : Nat) (o : Obj) : World := { w with heap := w.heap.setIfInBounds b o }

/-! closed looks into the tables -/
def isSc (P : Program) (t : TypeId) : Bool := match P.underlying t with | some (.struct _) | some (.array _ _) | none => false | _ => true
def isAg (P : Program) (t : TypeId) (n : Nat) : Bool := (match P.underlying t with | some (.struct _) | some (.array _ _) => true | _ => false) && ((P.info? t).map (·.size) == some n)
def isOne (P : Program) (t : TypeId) : Bool := (P.info? t).map (·.size) == some 1
def fOff (P : Program) (s f k : Nat) : Bool := match P.underlying s with
  | some (.struct fs) => match fs[f]? with
    | some fd => fd.offset == k && (match P.info? fd.type with | some i => i.size != 0 | none => false)
    | none => false
  | _ => false
def slE (P : Program) (t n : Nat) : Bool := match P.underlying t with | some (.slice e) => (P.info? e).map (·.size) == some n | _ => false
def arE (P : Program) (t len n : Nat) : Bool := match P.underlying t with | some (.array l e) => l == len && (P.info? e).map (·.size) == some n | _ => false
def isInt (P : Program) (t : TypeId) (k : IntKind) : Bool := match P.underlying t with | some (.int j) => j == k | _ => false
def isStr (P : Program) (t : TypeId) : Bool := match P.underlying t with | some .string => true | _ => false
def isBool (P : Program) (t : TypeId) : Bool := match P.underlying t with | some .bool => true | _ => false
def isPtr (P : Program) (t : TypeId) : Bool := match P.underlying t with | some (.pointer _) => true | _ => false
def isMap (P : Program) (t : TypeId) : Bool := match P.underlying t with | some (.map _ _) => true | _ => false
def isFn (P : Program) (t : TypeId) : Bool := match P.underlying t with | some (.func _ _ _) => true | _ => false
def isSl (P : Program) (t : TypeId) : Bool := match P.underlying t with | some (.slice _) => true | _ => false
def isIface (P : Program) (t : TypeId) : Bool := match P.underlying t with | some (.interface _) => true | _ => false
def isConc (P : Program) (t : TypeId) : Bool := match P.underlying t with | some (.interface _) | none => false | _ => true
def zeroIs (P : Program) (t : TypeId) (z : Value) : Prop := (P.info? t).bind (·.zero) = some z

/-! the operations -/
def okNil : Value → Bool
  | .pointer none | .nilIface | .nilFunc => false
  | .func (.method _) _ _ => false
  | _ => true
def nc (x : Value) (K : Value → M) : M := fun w Q => okNil x = true ∧ K x w Q
def fa (k : Nat) (x : Value) (K : Value → M) : M := fun w Q => ∃ a, x = .pointer (some a) ∧ K (.pointer (some (a.add k))) w Q
def ld (x : Value) (K : Value → M) : M := fun w Q => ∃ a v, x = .pointer (some a) ∧ w.cell? a = some v ∧ K v w Q
def rds (w : World) (a : Addr) (cs : Array Value) : Prop := ∀ j v, cs[j]? = some v → w.cell? (a.add j) = some v
def ldn (n : Nat) (x : Value) (K : Value → M) : M := fun w Q => ∃ a cs, x = .pointer (some a) ∧ cs.size = n ∧ rds w a cs ∧ K (.agg cs) w Q
def st (x v : Value) (K : M) : M := fun w Q => ∃ a, x = .pointer (some a) ∧ (w.cell? a).isSome = true ∧ w.frozen? a = false ∧ v.oneCell' = true ∧ K (w.setCell a v) Q
def sts : World → Addr → List Value → Nat → Option World
  | w, _, [], _ => some w
  | w, a, v :: r, i => if (w.cell? (a.add i)).isSome && !(w.frozen? (a.add i)) && v.oneCell' then sts (w.setCell (a.add i) v) a r (i + 1) else none
def stn (n : Nat) (x v : Value) (K : M) : M := fun w Q => ∃ a cs w', x = .pointer (some a) ∧ v = .agg cs ∧ cs.size = n ∧ sts w a cs.toList 0 = some w' ∧ K w' Q
def ad (k : IntKind) (x y : Value) (K : Value → M) : M := fun w Q => ∃ a b, x = .int k a ∧ y = .int k b ∧ K (.int k (k.wrap (a + b))) w Q
def su (k : IntKind) (x y : Value) (K : Value → M) : M := fun w Q => ∃ a b, x = .int k a ∧ y = .int k b ∧ K (.int k (k.wrap (a - b))) w Q
def mu (k : IntKind) (x y : Value) (K : Value → M) : M := fun w Q => ∃ a b, x = .int k a ∧ y = .int k b ∧ K (.int k (k.wrap (a * b))) w Q
def qu (k : IntKind) (x y : Value) (K : Value → M) : M := fun w Q => ∃ a b, x = .int k a ∧ y = .int k b ∧ b ≠ 0 ∧ K (.int k (k.wrap (a.tdiv b))) w Q
def re (k : IntKind) (x y : Value) (K : Value → M) : M := fun w Q => ∃ a b, x = .int k a ∧ y = .int k b ∧ b ≠ 0 ∧ K (.int k (a.tmod b)) w Q
def lt (k : IntKind) (x y : Value) (K : Value → M) : M := fun w Q => ∃ a b, x = .int k a ∧ y = .int k b ∧ K (.bool (decide (a < b))) w Q
def le (k : IntKind) (x y : Value) (K : Value → M) : M := fun w Q => ∃ a b, x = .int k a ∧ y = .int k b ∧ K (.bool (decide (a ≤ b))) w Q
def gt (k : IntKind) (x y : Value) (K : Value → M) : M := fun w Q => ∃ a b, x = .int k a ∧ y = .int k b ∧ K (.bool (decide (b < a))) w Q
def ge (k : IntKind) (x y : Value) (K : Value → M) : M := fun w Q => ∃ a b, x = .int k a ∧ y = .int k b ∧ K (.bool (decide (b ≤ a))) w Q
def eqi (k : IntKind) (x y : Value) (K : Value → M) : M := fun w Q => ∃ a b, x = .int k a ∧ y = .int k b ∧ K (.bool (decide (a = b))) w Q
def nei (k : IntKind) (x y : Value) (K : Value → M) : M := fun w Q => ∃ a b, x = .int k a ∧ y = .int k b ∧ K (.bool (decide (a ≠ b))) w Q
def bws (op : BinOp) (k : IntKind) (x y : Value) (K : Value → M) : M := fun w Q => ∃ a b v, x = .int k a ∧ y = .int k b ∧ (∀ P : Program, ∀ w : World, (Op.intBits op k a b).run P w = .ok v w) ∧ K v w Q
def shl (k j : IntKind) (x y : Value) (K : Value → M) : M := fun w Q => ∃ a b, x = .int k a ∧ y = .int j b ∧ 0 ≤ b ∧ K (.int k (k.wrap (a * 2 ^ (min b.toNat k.bits)))) w Q
def shr (k j : IntKind) (x y : Value) (K : Value → M) : M := fun w Q => ∃ a b, x = .int k a ∧ y = .int j b ∧ 0 ≤ b ∧ K (.int k (a.fdiv (2 ^ (min b.toNat k.bits)))) w Q
def cat (x y : Value) (K : Value → M) : M := fun w Q => ∃ a b, x = .string a ∧ y = .string b ∧ a.size + b.size ≤ 9223372036854775807 ∧ K (.string (a ++ b)) w Q
def eqs (x y : Value) (K : Value → M) : M := fun w Q => ∃ a b, x = .string a ∧ y = .string b ∧ K (.bool (decide (a = b))) w Q
def nes (x y : Value) (K : Value → M) : M := fun w Q => ∃ a b, x = .string a ∧ y = .string b ∧ K (.bool (decide (a ≠ b))) w Q
def lts (x y : Value) (K : Value → M) : M := fun w Q => ∃ a b, x = .string a ∧ y = .string b ∧ K (.bool (Op.bytesLess a.toList b.toList)) w Q
def gts (x y : Value) (K : Value → M) : M := fun w Q => ∃ a b, x = .string a ∧ y = .string b ∧ K (.bool !(Op.bytesLess a.toList b.toList || a.toList == b.toList)) w Q
def eqb (x y : Value) (K : Value → M) : M := fun w Q => ∃ a b, x = .bool a ∧ y = .bool b ∧ K (.bool (a == b)) w Q
def neb (x y : Value) (K : Value → M) : M := fun w Q => ∃ a b, x = .bool a ∧ y = .bool b ∧ K (.bool !(a == b)) w Q
def nt (x : Value) (K : Value → M) : M := fun w Q => ∃ b, x = .bool b ∧ K (.bool !b) w Q
def pk (c x y : Value) (K : Value → M) : M := fun w Q => ∃ b, c = .bool b ∧ K (bif b then x else y) w Q
def cv (k : IntKind) (x : Value) (K : Value → M) : M := fun w Q => ∃ j a, x = .int j a ∧ K (.int k (k.wrap a)) w Q
def al (t : TypeId) (cs : Array Value) (K : Value → M) : M := fun w Q => K (.pointer (some ⟨w.heap.size, 0, none⟩)) (psh w (.cells cs t)) Q
def bx (t : TypeId) (v : Value) (K : Value → M) : M := fun w Q => K (.pointer (some ⟨w.heap.size, 0, none⟩)) (psh w (.cells v.cells t)) Q
def ex (i : Nat) (x : Value) (K : Value → M) : M := fun w Q => ∃ vs v, x = .tuple vs ∧ vs[i]? = some v ∧ K v w Q
def fld (off : Nat) (x : Value) (K : Value → M) : M := fun w Q => ∃ cs v, x = .agg cs ∧ cs[off]? = some v ∧ K v w Q
def fldn (off n : Nat) (x : Value) (K : Value → M) : M := fun w Q => ∃ cs, x = .agg cs ∧ K (.agg (cs.extract off (off + n))) w Q
def lnl (x : Value) (K : Value → M) : M := fun w Q => ∃ a l c, x = .slice a l c ∧ K (.int .i64 l) w Q
def lns (x : Value) (K : Value → M) : M := fun w Q => ∃ s, x = .string s ∧ K (.int .i64 s.size) w Q
def ia (n : Nat) (x i : Value) (K : Value → M) : M := fun w Q => ∃ a l c k j, x = .slice (some a) l c ∧ i = .int k j ∧ 0 ≤ j ∧ j < l ∧ K (.pointer (some (a.add (j.toNat * n)))) w Q
def iaa (len n : Nat) (x i : Value) (K : Value → M) : M := fun w Q => ∃ a k j, x = .pointer (some a) ∧ i = .int k j ∧ 0 ≤ j ∧ j < len ∧ K (.pointer (some (a.add (j.toNat * n)))) w Q
def ixs (x i : Value) (K : Value → M) : M := fun w Q => ∃ s k j b, x = .string s ∧ i = .int k j ∧ 0 ≤ j ∧ s[j.toNat]? = some b ∧ K (.int .u8 (b.toNat : Int)) w Q
def bnd (o : Option Value) (d m : Nat) (l : Nat) : Prop := match o with | none => l = d | some v => ∃ k j, v = .int k j ∧ 0 ≤ j ∧ j ≤ m ∧ l = j.toNat
def sls (x : Value) (lo hi : Option Value) (K : Value → M) : M := fun w Q => ∃ s l h, x = .string s ∧ bnd hi s.size s.size h ∧ bnd lo 0 h l ∧ K (.string (s.extract l h)) w Q
def sll (n : Nat) (x : Value) (lo hi : Option Value) (K : Value → M) : M := fun w Q => ∃ a len cap l h, x = .slice a len cap ∧ bnd hi len cap h ∧ bnd lo 0 h l ∧ K (.slice (if cap = l then a else a.map (·.add (l * n))) (h - l) (cap - l)) w Q
def sla (len n : Nat) (x : Value) (lo hi : Option Value) (K : Value → M) : M := fun w Q => ∃ a l h, x = .pointer (some a) ∧ bnd hi len len h ∧ bnd lo 0 h l ∧ K (.slice (some (if len = l then a else a.add (l * n))) (h - l) (len - l)) w Q
def mif (t : TypeId) (x : Value) (K : Value → M) : M := fun w Q => K (.iface t x) w Q
def mnm (x y : Value) (K : Value → M) : M := fun w Q => ∃ k a b, x = .int k a ∧ y = .int k b ∧ K (.int k (if b < a then b else a)) w Q
def mxm (x y : Value) (K : Value → M) : M := fun w Q => ∃ k a b, x = .int k a ∧ y = .int k b ∧ K (.int k (if a < b then b else a)) w Q
def mm (K : Value → M) : M := fun w Q => K (.map (some w.heap.size)) (psh w (.map #[] 0)) Q
def asrt (t : TypeId) (x : Value) (K : Value → M) : M := fun w Q => ∃ v, x = .iface t v ∧ K v w Q
/-- Any operation that yields a value, by its own run. -/
def sm (P : Program) (s : Sem Value) (K : Value → M) : M := fun w Q => ∃ v w', s.run P w = .ok v w' ∧ K v w' Q
def smu (P : Program) (s : Sem Unit) (K : M) : M := fun w Q => ∃ w', s.run P w = .ok () w' ∧ K w' Q
/-- A call that another predicate transformer tells. -/
def cl (f : M) (K : Value → M) : M := fun w Q => f w (fun v w' => K v w' Q)
def cc (P : Program) (f : FuncId) (args : Array Value) (K : Value → M) : M := fun w Q => Calls P f args w (Rt (fun v w' => K v w' Q))
/-- A call of a function value. -/
def cf (P : Program) (x : Value) (args : Array Value) (K : Value → M) : M := fun w Q => ∃ f z cap, x = .func (.func f) z cap ∧ (callFunc f (z ++ args ++ cap)).run P w = .ok (.enter f (z ++ args ++ cap)) w ∧ Calls P f (z ++ args ++ cap) w (Rt (fun v w' => K v w' Q))
/-- A call through an interface. -/
def ci (P : Program) (x : Value) (m : String) (args : Array Value) (K : Value → M) : M := fun w Q => ∃ f gs w1, (callMethod x m args).run P w = .ok (.enter f gs) w1 ∧ Calls P f gs w1 (Rt (fun v w' => K v w' Q))
def cnd (c : Value) (A B : M) : M := fun w Q => ∃ b, c = .bool b ∧ (bif b then A w Q else B w Q)
def gdB (v : Value) (want : Bool) : Bool := match v with | .bool b => b == want | _ => false
def gd (v : Value) (want : Bool) (A : (Value → M) → M) (K : Value → M) : M := fun w Q => bif gdB v want then A K w Q else K undef w Q
def gdu (v : Value) (want : Bool) (A : M → M) (K : M) : M := fun w Q => bif gdB v want then A K w Q else K w Q
def rt (v : Value) : M := fun w Q => Q v w
def lp (f : Nat → M) : M := fun w Q => ∃ k, f k w Q
def bot : M := fun _ _ => False
end Sh
end Go.Proofs.Ytlmiimojgledpaa

namespace Go.Proofs.Ytlmiimojgledpaa
namespace Sh
section
variable {P : Program} {N : Nat} {ρ : Nat → Value} {w : World} {d : Nat} {ty : TypeId} {pos : String} {aft : Array Edge} {g : Option (Nat × Bool)}
  {next : Act → World → Prop} {Qx : Exit → Act → World → Prop} {Qm : Value → World → Prop} {K : Value → M} {K0 : M}

theorem wp_run {op : Op} {v : Value} {w' : World} (hr : (execOp (opv N ρ) ⟨some d, op, ty, pos, aft, g⟩).run P w = .ok (.value v) w')
    (h : next (act N (upd ρ d v)) w') : Oper.wp P ⟨some d, op, ty, pos, aft, g⟩ (act N ρ) w next Qx := by
  simp only [Oper.wp, eval_act, hr, Oper.upon, put_act]; exact h
theorem wp_run0 {op : Op} {w' : World} (hr : (execOp (opv N ρ) ⟨none, op, ty, pos, aft, g⟩).run P w = .ok .skip w')
    (h : next (act N ρ) w') : Oper.wp P ⟨none, op, ty, pos, aft, g⟩ (act N ρ) w next Qx := by
  simp only [Oper.wp, eval_act, hr, Oper.upon, Act.put]; exact h
/-- a value that nobody takes up -/
theorem wp_runv {op : Op} {v : Value} {w' : World} (hr : (execOp (opv N ρ) ⟨none, op, ty, pos, aft, g⟩).run P w = .ok (.value v) w')
    (h : next (act N ρ) w') : Oper.wp P ⟨none, op, ty, pos, aft, g⟩ (act N ρ) w next Qx := by
  simp only [Oper.wp, eval_act, hr, Oper.upon, Act.put]; exact h

/-! stepping over an operation, guarded or not -/
theorem L_u {all : Array Oper} {r : List Oper} {dst : Option Tmp} {op : Op} {X : Prop}
    (hp : X → Oper.wp P ⟨dst, op, ty, pos, aft, none⟩ (act N ρ) w (wpL P all Qx r) Qx) (c : X) : wpL P all Qx (⟨dst, op, ty, pos, aft, none⟩ :: r) (act N ρ) w := by
  simp only [wpL, Region.wanted, if_true]; exact hp c
theorem wanted_act {all : Array Oper} {dst : Option Tmp} {op : Op} {j t : Nat} {want : Bool} (hj : (all[j]?).bind (·.dst) = some t) (ht : Nat.blt t N = true) :
    Region.wanted ⟨dst, op, ty, pos, aft, some (j, want)⟩ (yielded all (act N ρ).tmps) = gdB (ρ t) want := by
  have hy : yielded all (act N ρ).tmps j = match ρ t with | .bool b => some b | _ => none := by
    unfold yielded
    rw [hj]
    have h : t < N := by simpa using ht
    simp [act, h]
    generalize ρ t = z
    cases z <;> rfl
  simp only [Region.wanted, hy, gdB]
  cases ρ t <;> simp
theorem L_g {all : Array Oper} {r : List Oper} {op : Op} {j t : Nat} {want : Bool} {A : (Value → M) → M}
    (h : gd (ρ t) want A K w Qm) (hj : (all[j]?).bind (·.dst) = some t) (ht : Nat.blt t N = true)
    (hp : (∀ v w', K v w' Qm → wpL P all Qx r (act N (upd ρ d v)) w') → A K w Qm → Oper.wp P ⟨some d, op, ty, pos, aft, some (j, want)⟩ (act N ρ) w (wpL P all Qx r) Qx)
    (c : ∀ v w', K v w' Qm → wpL P all Qx r (act N (upd ρ d v)) w') : wpL P all Qx (⟨some d, op, ty, pos, aft, some (j, want)⟩ :: r) (act N ρ) w := by
  simp only [wpL, wanted_act hj ht]
  unfold gd at h
  cases hb : gdB (ρ t) want <;> rw [hb] at h
  · simp only [cond_false, Bool.false_eq_true, if_false, put_act] at h ⊢; exact c _ _ h
  · simp only [cond_true, if_true] at h ⊢; exact hp c h
theorem L_g0 {all : Array Oper} {r : List Oper} {op : Op} {j t : Nat} {want : Bool} {A : M → M}
    (h : gdu (ρ t) want A K0 w Qm) (hj : (all[j]?).bind (·.dst) = some t) (ht : Nat.blt t N = true)
    (hp : (∀ w', K0 w' Qm → wpL P all Qx r (act N ρ) w') → A K0 w Qm → Oper.wp P ⟨none, op, ty, pos, aft, some (j, want)⟩ (act N ρ) w (wpL P all Qx r) Qx)
    (c : ∀ w', K0 w' Qm → wpL P all Qx r (act N ρ) w') : wpL P all Qx (⟨none, op, ty, pos, aft, some (j, want)⟩ :: r) (act N ρ) w := by
  simp only [wpL, wanted_act hj ht]
  unfold gdu at h
  cases hb : gdB (ρ t) want <;> rw [hb] at h
  · simp only [cond_false, Bool.false_eq_true, if_false, Act.put] at h ⊢; exact c _ h
  · simp only [cond_true, if_true] at h ⊢; exact hp c h
theorem L_mv {all : Array Oper} {r : List Oper} {x : Operand} (h : wpL P all Qx r (act N (upd ρ d (opv N ρ x))) w) : wpL P all Qx (⟨some d, .move x, ty, pos, aft, none⟩ :: r) (act N ρ) w := by
  simp only [wpL, Region.wanted, if_true]; exact wp_run (by simp [execOp]) h
theorem L_as {all : Array Oper} {r : List Oper} {x : Operand} (h : wpL P all Qx r (act N (upd ρ d (opv N ρ x))) w) : wpL P all Qx (⟨some d, .assign x, ty, pos, aft, none⟩ :: r) (act N ρ) w := by
  simp only [wpL, Region.wanted, if_true]; exact wp_run (by simp [execOp]) h
def idv (x : Value) (K : Value → M) : M := K x
theorem P_mv {x : Operand} (h : idv (opv N ρ x) K w Qm) (c : ∀ v w', K v w' Qm → next (act N (upd ρ d v)) w') : Oper.wp P ⟨some d, .move x, ty, pos, aft, g⟩ (act N ρ) w next Qx :=
  wp_run (by simp [execOp]) (c _ _ h)
theorem P_as {x : Operand} (h : idv (opv N ρ x) K w Qm) (c : ∀ v w', K v w' Qm → next (act N (upd ρ d v)) w') : Oper.wp P ⟨some d, .assign x, ty, pos, aft, g⟩ (act N ρ) w next Qx :=
  wp_run (by simp [execOp]) (c _ _ h)

/-! the operations -/
theorem P_nc {x : Operand} (h : nc (opv N ρ x) K w Qm) (c : ∀ v w', K v w' Qm → next (act N (upd ρ d v)) w') : Oper.wp P ⟨some d, .nilCheck x, ty, pos, aft, g⟩ (act N ρ) w next Qx := by
  obtain ⟨h1, h2⟩ := h
  refine wp_run ?_ (c _ _ h2)
  revert h1
  simp only [execOp]
  generalize opv N ρ x = v
  intro h1
  cases v with
  | pointer a => cases a <;> simp [okNil] at h1 ⊢
  | func f => cases f <;> simp [okNil] at h1 ⊢
  | _ => simp [okNil] at h1 ⊢
theorem run_isAgg_sc {t : TypeId} (h : isSc P t = true) : (isAgg t).run P w = .ok false w := by
  unfold isSc at h
  cases hu : P.underlying t with
  | none => simp [hu] at h
  | some x => cases x <;> simp [hu] at h <;> simp [isAgg, underlying, hu]
theorem run_isAgg_ag {t : TypeId} {n : Nat} (h : isAg P t n = true) : (isAgg t).run P w = .ok true w := by
  unfold isAg at h
  cases hu : P.underlying t with
  | none => simp [hu] at h
  | some x => cases x <;> simp [hu] at h <;> simp [isAgg, underlying, hu]
theorem run_sizeOf_ag {t : TypeId} {n : Nat} (h : isAg P t n = true) : (sizeOf t).run P w = .ok n w := by
  unfold isAg at h
  cases hu : P.info? t with
  | none => simp [hu] at h
  | some i => simp [hu] at h; simp [sizeOf, typeInfo, hu, h.2]
theorem run_sizeOf_one {t : TypeId} (h : isOne P t = true) : (sizeOf t).run P w = .ok 1 w := by
  unfold isOne at h
  cases hu : P.info? t with
  | none => simp [hu] at h
  | some i => simp [hu] at h; simp [sizeOf, typeInfo, hu, h]
theorem P_ld {t : TypeId} {x : Operand} (ht : isSc P t = true) (h : ld (opv N ρ x) K w Qm) (c : ∀ v w', K v w' Qm → next (act N (upd ρ d v)) w') : Oper.wp P ⟨some d, .load t x, ty, pos, aft, g⟩ (act N ρ) w next Qx := by
  obtain ⟨a, v, hx, hv, hk⟩ := h
  refine wp_run ?_ (c _ _ hk)
  simp [execOp, hx, Instr.loadAt, Instr.sureAddr, loadVar, run_isAgg_sc ht, hv]
theorem run_loadCellsFrom_rds {a : Addr} {cs : Array Value} (h : rds w a cs) : ∀ (n i : Nat) (acc : Array Value), i + n = cs.size → (loadCellsFrom a i n acc).run P w = .ok (acc ++ cs.extract i cs.size) w := by
  intro n
  induction n with
  | zero => intro i acc hi; simp only [loadCellsFrom, Sem.run_pure]; congr 1; apply Array.ext' ; simp; omega
  | succ n ih =>
    intro i acc hi
    have hlt : i < cs.size := by omega
    have hv := h i cs[i] (by simp [hlt])
    simp only [loadCellsFrom, Sem.run_bind, run_load, hv, Result.andThen_ok]
    rw [ih (i + 1) _ (by omega)]
    congr 1
    apply Array.ext'
    simp only [Array.toList_append, Array.toList_push, Array.toList_extract, List.append_assoc]
    congr 1
    rw [List.extract_eq_take_drop, List.extract_eq_take_drop]
    have : List.drop i cs.toList = cs[i] :: List.drop (i + 1) cs.toList := by
      rw [List.drop_eq_getElem_cons (by simpa using hlt)]; simp
    rw [this, show cs.size - i = (cs.size - (i + 1)) + 1 from by omega]
    simp
theorem P_ldn {t : TypeId} {n : Nat} {x : Operand} (ht : isAg P t n = true) (h : ldn n (opv N ρ x) K w Qm) (c : ∀ v w', K v w' Qm → next (act N (upd ρ d v)) w') : Oper.wp P ⟨some d, .load t x, ty, pos, aft, g⟩ (act N ρ) w next Qx := by
  obtain ⟨a, cs, hx, hn, hv, hk⟩ := h
  refine wp_run ?_ (c _ _ hk)
  have := run_loadCellsFrom_rds (P := P) hv n 0 #[] (by omega)
  simp [execOp, hx, Instr.loadAt, Instr.sureAddr, loadVar, run_isAgg_ag ht, run_sizeOf_ag ht, loadCells, this]
theorem P_st {t : TypeId} {x v : Operand} (ht : isOne P t = true) (h : st (opv N ρ x) (opv N ρ v) K0 w Qm) (c : ∀ w', K0 w' Qm → next (act N ρ) w') : Oper.wp P ⟨none, .store t x v, ty, pos, aft, g⟩ (act N ρ) w next Qx := by
  obtain ⟨a, hx, hc, hf, ho, hk⟩ := h
  refine wp_run0 ?_ (c _ hk)
  have hcells : (opv N ρ v).cells = #[opv N ρ v] := by revert ho; generalize opv N ρ v = y; cases y <;> simp [Value.cells, Value.oneCell']
  obtain ⟨u, hu⟩ := Option.isSome_iff_exists.1 hc
  have := run_store P w a (opv N ρ v) .plain ho
  have h0 : a.add 0 = a := rfl
  simp [execOp, hx, Instr.storeAt, Instr.sureAddr, storeVar, hcells, run_sizeOf_one ht, storeCells, h0, this, hu, hf]
theorem run_storeCells_sts : ∀ (l : List Value) (w w' : World) (a : Addr) (i : Nat), sts w a l i = some w' → (storeCells a l i).run P w = .ok () w' := by
  intro l
  induction l with
  | nil => intro w w' a i h; simp [sts] at h; subst h; simp [storeCells]
  | cons v l ih =>
    intro w w' a i h
    simp only [sts] at h
    split at h
    · rename_i hc
      simp only [Bool.and_eq_true, Bool.not_eq_true'] at hc
      obtain ⟨⟨h1, h2⟩, h3⟩ := hc
      obtain ⟨u, hu⟩ := Option.isSome_iff_exists.1 h1
      have := run_store P w (a.add i) v .plain h3
      simp only [storeCells, Sem.run_bind, this, hu, h2, Bool.false_eq_true, if_false, Result.andThen_ok]
      exact ih _ _ _ _ h
    · cases h
theorem P_stn {t : TypeId} {n : Nat} {x v : Operand} (ht : isAg P t n = true) (h : stn n (opv N ρ x) (opv N ρ v) K0 w Qm) (c : ∀ w', K0 w' Qm → next (act N ρ) w') : Oper.wp P ⟨none, .store t x v, ty, pos, aft, g⟩ (act N ρ) w next Qx := by
  obtain ⟨a, cs, w', hx, hv, hn, hs, hk⟩ := h
  refine wp_run0 ?_ (c _ hk)
  have := run_storeCells_sts (P := P) _ _ _ _ _ hs
  simp [execOp, hx, hv, Instr.storeAt, Instr.sureAddr, storeVar, Value.cells, run_sizeOf_ag ht, hn, this]
theorem P_fa {s f k : Nat} {x : Operand} (ht : fOff P s f k = true) (h : fa k (opv N ρ x) K w Qm) (c : ∀ v w', K v w' Qm → next (act N (upd ρ d v)) w') : Oper.wp P ⟨some d, .fieldAddr s x f, ty, pos, aft, g⟩ (act N ρ) w next Qx := by
  obtain ⟨a, hx, hk⟩ := h
  refine wp_run ?_ (c _ _ hk)
  unfold fOff at ht
  split at ht
  · rename_i fs hu
    split at ht
    · rename_i fd hfd
      simp only [Bool.and_eq_true, beq_iff_eq] at ht
      obtain ⟨h1, h2⟩ := ht
      split at h2
      · rename_i i hi
        have hs : (sizeOf fd.type).run P w = .ok i.size w := by simp [sizeOf, typeInfo, hi]
        have h2' : ¬ i.size = 0 := by simpa using h2
        simp [execOp, hx, Instr.fieldAt, underlying, hu, hfd, Instr.sureAddr, fieldPlace, hs, h2', h1]
      · cases h2
    · cases ht
  · cases ht
theorem P_fld {s f k : Nat} {x : Operand} {ft : TypeId} (ht : fOff P s f k = true) (hs : (match P.underlying s with | some (.struct fs) => (fs[f]?).map (·.type) | _ => none) = some ft) (hsc : isSc P ft = true)
    (h : fld k (opv N ρ x) K w Qm) (c : ∀ v w', K v w' Qm → next (act N (upd ρ d v)) w') : Oper.wp P ⟨some d, .field s x f, ty, pos, aft, g⟩ (act N ρ) w next Qx := by
  obtain ⟨cs, v, hx, hv, hk⟩ := h
  refine wp_run ?_ (c _ _ hk)
  unfold fOff at ht
  cases hu : P.underlying s with
  | none => simp [hu] at ht
  | some x' =>
    cases x' <;> simp [hu] at ht hs
    rename_i fs
    obtain ⟨fd, hfd, hft⟩ := hs
    simp [hfd] at ht
    simp [execOp, hx, Instr.field, underlying, hu, hfd, asAgg, part, hft, run_isAgg_sc hsc, ht.1, hv]
theorem P_fldn {s f k n : Nat} {x : Operand} {ft : TypeId} (ht : fOff P s f k = true) (hs : (match P.underlying s with | some (.struct fs) => (fs[f]?).map (·.type) | _ => none) = some ft) (hsc : isAg P ft n = true)
    (h : fldn k n (opv N ρ x) K w Qm) (c : ∀ v w', K v w' Qm → next (act N (upd ρ d v)) w') : Oper.wp P ⟨some d, .field s x f, ty, pos, aft, g⟩ (act N ρ) w next Qx := by
  obtain ⟨cs, hx, hk⟩ := h
  refine wp_run ?_ (c _ _ hk)
  unfold fOff at ht
  cases hu : P.underlying s with
  | none => simp [hu] at ht
  | some x' =>
    cases x' <;> simp [hu] at ht hs
    rename_i fs
    obtain ⟨fd, hfd, hft⟩ := hs
    simp [hfd] at ht
    simp [execOp, hx, Instr.field, underlying, hu, hfd, asAgg, part, hft, run_isAgg_ag hsc, run_sizeOf_ag hsc, ht.1]
theorem P_ad {k : IntKind} {t t2 : TypeId} {x y : Operand} (h : ad k (opv N ρ x) (opv N ρ y) K w Qm) (c : ∀ v w', K v w' Qm → next (act N (upd ρ d v)) w') : Oper.wp P ⟨some d, .binOp .add t x y t2, ty, pos, aft, g⟩ (act N ρ) w next Qx := by
  obtain ⟨a, b, hx, hy, hk⟩ := h
  exact wp_run (by simp [execOp, hx, hy, eqGuard, binOp, Op.intArith]) (c _ _ hk)
theorem P_su {k : IntKind} {t t2 : TypeId} {x y : Operand} (h : su k (opv N ρ x) (opv N ρ y) K w Qm) (c : ∀ v w', K v w' Qm → next (act N (upd ρ d v)) w') : Oper.wp P ⟨some d, .binOp .sub t x y t2, ty, pos, aft, g⟩ (act N ρ) w next Qx := by
  obtain ⟨a, b, hx, hy, hk⟩ := h
  exact wp_run (by simp [execOp, hx, hy, eqGuard, binOp, Op.intArith]) (c _ _ hk)
theorem P_mu {k : IntKind} {t t2 : TypeId} {x y : Operand} (h : mu k (opv N ρ x) (opv N ρ y) K w Qm) (c : ∀ v w', K v w' Qm → next (act N (upd ρ d v)) w') : Oper.wp P ⟨some d, .binOp .mul t x y t2, ty, pos, aft, g⟩ (act N ρ) w next Qx := by
  obtain ⟨a, b, hx, hy, hk⟩ := h
  exact wp_run (by simp [execOp, hx, hy, eqGuard, binOp, Op.intArith]) (c _ _ hk)
theorem P_qu {k : IntKind} {t t2 : TypeId} {x y : Operand} (h : qu k (opv N ρ x) (opv N ρ y) K w Qm) (c : ∀ v w', K v w' Qm → next (act N (upd ρ d v)) w') : Oper.wp P ⟨some d, .binOp .quo t x y t2, ty, pos, aft, g⟩ (act N ρ) w next Qx := by
  obtain ⟨a, b, hx, hy, hb, hk⟩ := h
  exact wp_run (by simp [execOp, hx, hy, eqGuard, binOp, Op.intDiv, hb]) (c _ _ hk)
theorem P_re {k : IntKind} {t t2 : TypeId} {x y : Operand} (h : re k (opv N ρ x) (opv N ρ y) K w Qm) (c : ∀ v w', K v w' Qm → next (act N (upd ρ d v)) w') : Oper.wp P ⟨some d, .binOp .rem t x y t2, ty, pos, aft, g⟩ (act N ρ) w next Qx := by
  obtain ⟨a, b, hx, hy, hb, hk⟩ := h
  exact wp_run (by simp [execOp, hx, hy, eqGuard, binOp, Op.intDiv, hb]) (c _ _ hk)
theorem P_lt {k : IntKind} {t t2 : TypeId} {x y : Operand} (h : lt k (opv N ρ x) (opv N ρ y) K w Qm) (c : ∀ v w', K v w' Qm → next (act N (upd ρ d v)) w') : Oper.wp P ⟨some d, .binOp .lss t x y t2, ty, pos, aft, g⟩ (act N ρ) w next Qx := by
  obtain ⟨a, b, hx, hy, hk⟩ := h
  exact wp_run (by simp [execOp, hx, hy, eqGuard, binOp, Op.intCmp]) (c _ _ hk)
theorem P_le {k : IntKind} {t t2 : TypeId} {x y : Operand} (h : le k (opv N ρ x) (opv N ρ y) K w Qm) (c : ∀ v w', K v w' Qm → next (act N (upd ρ d v)) w') : Oper.wp P ⟨some d, .binOp .leq t x y t2, ty, pos, aft, g⟩ (act N ρ) w next Qx := by
  obtain ⟨a, b, hx, hy, hk⟩ := h
  exact wp_run (by simp [execOp, hx, hy, eqGuard, binOp, Op.intCmp]) (c _ _ hk)
theorem P_gt {k : IntKind} {t t2 : TypeId} {x y : Operand} (h : gt k (opv N ρ x) (opv N ρ y) K w Qm) (c : ∀ v w', K v w' Qm → next (act N (upd ρ d v)) w') : Oper.wp P ⟨some d, .binOp .gtr t x y t2, ty, pos, aft, g⟩ (act N ρ) w next Qx := by
  obtain ⟨a, b, hx, hy, hk⟩ := h
  exact wp_run (by simp [execOp, hx, hy, eqGuard, binOp, Op.intCmp, GT.gt]) (c _ _ hk)
theorem P_ge {k : IntKind} {t t2 : TypeId} {x y : Operand} (h : ge k (opv N ρ x) (opv N ρ y) K w Qm) (c : ∀ v w', K v w' Qm → next (act N (upd ρ d v)) w') : Oper.wp P ⟨some d, .binOp .geq t x y t2, ty, pos, aft, g⟩ (act N ρ) w next Qx := by
  obtain ⟨a, b, hx, hy, hk⟩ := h
  exact wp_run (by simp [execOp, hx, hy, eqGuard, binOp, Op.intCmp, GE.ge]) (c _ _ hk)
theorem P_eqi {k : IntKind} {t t2 : TypeId} {x y : Operand} (h : eqi k (opv N ρ x) (opv N ρ y) K w Qm) (c : ∀ v w', K v w' Qm → next (act N (upd ρ d v)) w') : Oper.wp P ⟨some d, .binOp .eql t x y t2, ty, pos, aft, g⟩ (act N ρ) w next Qx := by
  obtain ⟨a, b, hx, hy, hk⟩ := h
  refine wp_run ?_ (c _ _ hk)
  simp [execOp, hx, hy, eqGuard, binOp, Op.intCmp]
  rfl
theorem P_nei {k : IntKind} {t t2 : TypeId} {x y : Operand} (h : nei k (opv N ρ x) (opv N ρ y) K w Qm) (c : ∀ v w', K v w' Qm → next (act N (upd ρ d v)) w') : Oper.wp P ⟨some d, .binOp .neq t x y t2, ty, pos, aft, g⟩ (act N ρ) w next Qx := by
  obtain ⟨a, b, hx, hy, hk⟩ := h
  refine wp_run ?_ (c _ _ hk)
  have e : (a != b) = decide (a ≠ b) := by by_cases h : a = b <;> simp [h]
  simp [execOp, hx, hy, eqGuard, binOp, Op.intCmp]
  rw [e]; simp
end
end Sh
end Go.Proofs.Ytlmiimojgledpaa

namespace Go.Proofs.Ytlmiimojgledpaa
namespace Sh
section
variable {P : Program} {N : Nat} {ρ : Nat → Value} {w : World} {d : Nat} {ty : TypeId} {pos : String} {aft : Array Edge} {g : Option (Nat × Bool)}
  {next : Act → World → Prop} {Qx : Exit → Act → World → Prop} {Qm : Value → World → Prop} {K : Value → M} {K0 : M}

theorem P_bits {k : IntKind} {op : BinOp} {t t2 : TypeId} {x y : Operand} (ho : (match op with | .and | .or | .xor | .andNot => true | _ => false) = true) (h : bws op k (opv N ρ x) (opv N ρ y) K w Qm) (c : ∀ v w', K v w' Qm → next (act N (upd ρ d v)) w') : Oper.wp P ⟨some d, .binOp op t x y t2, ty, pos, aft, g⟩ (act N ρ) w next Qx := by
  obtain ⟨a, b, v, hx, hy, hv, hk⟩ := h
  refine wp_run ?_ (c _ _ hk)
  have := hv P w
  cases op <;> simp at ho <;> simp [execOp, hx, hy, eqGuard, binOp, this]
theorem P_shl {k j : IntKind} {t t2 : TypeId} {x y : Operand} (h : shl k j (opv N ρ x) (opv N ρ y) K w Qm) (c : ∀ v w', K v w' Qm → next (act N (upd ρ d v)) w') : Oper.wp P ⟨some d, .binOp .shl t x y t2, ty, pos, aft, g⟩ (act N ρ) w next Qx := by
  obtain ⟨a, b, hx, hy, hb, hk⟩ := h
  refine wp_run ?_ (c _ _ hk)
  simp [execOp, hx, hy, eqGuard, binOp, Op.shift, show ¬ b < 0 from by omega]
theorem P_shr {k j : IntKind} {t t2 : TypeId} {x y : Operand} (h : shr k j (opv N ρ x) (opv N ρ y) K w Qm) (c : ∀ v w', K v w' Qm → next (act N (upd ρ d v)) w') : Oper.wp P ⟨some d, .binOp .shr t x y t2, ty, pos, aft, g⟩ (act N ρ) w next Qx := by
  obtain ⟨a, b, hx, hy, hb, hk⟩ := h
  refine wp_run ?_ (c _ _ hk)
  simp [execOp, hx, hy, eqGuard, binOp, Op.shift, show ¬ b < 0 from by omega]
theorem toList_eq (a b : ByteArray) : (a.toList == b.toList) = decide (a = b) := by
  have : a.toList = b.toList ↔ a = b := by
    constructor
    · intro h
      simp only [ByteArray.toList_eq] at h
      cases a; cases b; simp_all
    · intro h; rw [h]
  by_cases h : a = b
  · simp [h]
  · simp only [h, decide_false]; rw [beq_eq_false_iff_ne]; exact fun e => h (this.1 e)
theorem P_cat {t t2 : TypeId} {x y : Operand} (h : cat (opv N ρ x) (opv N ρ y) K w Qm) (c : ∀ v w', K v w' Qm → next (act N (upd ρ d v)) w') : Oper.wp P ⟨some d, .binOp .add t x y t2, ty, pos, aft, g⟩ (act N ρ) w next Qx := by
  obtain ⟨a, b, hx, hy, hn, hk⟩ := h
  refine wp_run ?_ (c _ _ hk)
  have : ¬ (((a.size + b.size : Nat) : Int) > IntKind.i64.max) := by
    have e : IntKind.i64.max = 9223372036854775807 := by decide
    rw [e]; omega
  simp only [execOp, hx, hy, eqGuard, binOp, Op.stringOp, if_neg this]
  simp
theorem P_eqs {t t2 : TypeId} {x y : Operand} (h : eqs (opv N ρ x) (opv N ρ y) K w Qm) (c : ∀ v w', K v w' Qm → next (act N (upd ρ d v)) w') : Oper.wp P ⟨some d, .binOp .eql t x y t2, ty, pos, aft, g⟩ (act N ρ) w next Qx := by
  obtain ⟨a, b, hx, hy, hk⟩ := h
  refine wp_run ?_ (c _ _ hk)
  simp only [execOp, hx, hy, eqGuard, binOp, Op.stringOp, toList_eq]
  simp
theorem P_nes {t t2 : TypeId} {x y : Operand} (h : nes (opv N ρ x) (opv N ρ y) K w Qm) (c : ∀ v w', K v w' Qm → next (act N (upd ρ d v)) w') : Oper.wp P ⟨some d, .binOp .neq t x y t2, ty, pos, aft, g⟩ (act N ρ) w next Qx := by
  obtain ⟨a, b, hx, hy, hk⟩ := h
  refine wp_run ?_ (c _ _ hk)
  simp only [execOp, hx, hy, eqGuard, binOp, Op.stringOp, toList_eq]
  simp
theorem P_lts {t t2 : TypeId} {x y : Operand} (h : lts (opv N ρ x) (opv N ρ y) K w Qm) (c : ∀ v w', K v w' Qm → next (act N (upd ρ d v)) w') : Oper.wp P ⟨some d, .binOp .lss t x y t2, ty, pos, aft, g⟩ (act N ρ) w next Qx := by
  obtain ⟨a, b, hx, hy, hk⟩ := h
  refine wp_run ?_ (c _ _ hk)
  simp only [execOp, hx, hy, eqGuard, binOp, Op.stringOp]
  simp
theorem P_gts {t t2 : TypeId} {x y : Operand} (h : gts (opv N ρ x) (opv N ρ y) K w Qm) (c : ∀ v w', K v w' Qm → next (act N (upd ρ d v)) w') : Oper.wp P ⟨some d, .binOp .gtr t x y t2, ty, pos, aft, g⟩ (act N ρ) w next Qx := by
  obtain ⟨a, b, hx, hy, hk⟩ := h
  refine wp_run ?_ (c _ _ hk)
  simp only [execOp, hx, hy, eqGuard, binOp, Op.stringOp]
  simp
theorem equalIn_bool {t : TypeId} (hu : P.underlying t = some .bool) (n : Nat) (a b : Bool) : (Op.equalIn (n + 1) t (.bool a) (.bool b)).run P w = .ok (a == b) w := by
  simp [Op.equalIn, underlying, hu]
theorem P_eqb {t t2 : TypeId} {x y : Operand} (ht : isBool P t = true) (h : eqb (opv N ρ x) (opv N ρ y) K w Qm) (c : ∀ v w', K v w' Qm → next (act N (upd ρ d v)) w') : Oper.wp P ⟨some d, .binOp .eql t x y t2, ty, pos, aft, g⟩ (act N ρ) w next Qx := by
  obtain ⟨a, b, hx, hy, hk⟩ := h
  refine wp_run ?_ (c _ _ hk)
  unfold isBool at ht
  cases hu : P.underlying t with
  | none => simp [hu] at ht
  | some u =>
    cases u <;> simp [hu] at ht
    have := equalIn_bool (w := w) hu 9999 a b
    have e : Op.equal t (.bool a) (.bool b) = Op.equalIn (9999 + 1) t (.bool a) (.bool b) := rfl
    simp [execOp, hx, hy, eqGuard, binOp, e, this]
theorem P_neb {t t2 : TypeId} {x y : Operand} (ht : isBool P t = true) (h : neb (opv N ρ x) (opv N ρ y) K w Qm) (c : ∀ v w', K v w' Qm → next (act N (upd ρ d v)) w') : Oper.wp P ⟨some d, .binOp .neq t x y t2, ty, pos, aft, g⟩ (act N ρ) w next Qx := by
  obtain ⟨a, b, hx, hy, hk⟩ := h
  refine wp_run ?_ (c _ _ hk)
  unfold isBool at ht
  cases hu : P.underlying t with
  | none => simp [hu] at ht
  | some u =>
    cases u <;> simp [hu] at ht
    have := equalIn_bool (w := w) hu 9999 a b
    have e : Op.equal t (.bool a) (.bool b) = Op.equalIn (9999 + 1) t (.bool a) (.bool b) := rfl
    simp [execOp, hx, hy, eqGuard, binOp, e, this]
theorem P_nt {t : TypeId} {x : Operand} (h : nt (opv N ρ x) K w Qm) (c : ∀ v w', K v w' Qm → next (act N (upd ρ d v)) w') : Oper.wp P ⟨some d, .unOp .not t x, ty, pos, aft, g⟩ (act N ρ) w next Qx := by
  obtain ⟨a, hx, hk⟩ := h
  exact wp_run (by simp [execOp, hx, Op.unary]) (c _ _ hk)
theorem P_pk {x y z : Operand} (h : pk (opv N ρ x) (opv N ρ y) (opv N ρ z) K w Qm) (c : ∀ v w', K v w' Qm → next (act N (upd ρ d v)) w') : Oper.wp P ⟨some d, .pick x y z, ty, pos, aft, g⟩ (act N ρ) w next Qx := by
  obtain ⟨b, hx, hk⟩ := h
  refine wp_run ?_ (c _ _ hk)
  cases b <;> simp [execOp, hx, asBool]
theorem P_cv {k : IntKind} {s t : TypeId} {x : Operand} (hs : (match P.underlying s with | some (.int _) => true | _ => false) = true) (ht : isInt P t k = true) (h : cv k (opv N ρ x) K w Qm) (c : ∀ v w', K v w' Qm → next (act N (upd ρ d v)) w') : Oper.wp P ⟨some d, .convert s t x, ty, pos, aft, g⟩ (act N ρ) w next Qx := by
  obtain ⟨j, a, hx, hk⟩ := h
  refine wp_run ?_ (c _ _ hk)
  unfold isInt at ht
  cases hu : P.underlying t with
  | none => simp [hu] at ht
  | some u =>
    cases u <;> simp [hu] at ht
    cases hv : P.underlying s with
    | none => simp [hv] at hs
    | some u' =>
      cases u' <;> simp [hv] at hs
      subst ht
      simp [execOp, hx, convert, underlying, hu, hv, Conv.intToInt]
theorem P_al {t : TypeId} {z : Value} {cs : Array Value} (hz : zeroIs P t z) (hc : z.cells = cs) (h : al t cs K w Qm) (c : ∀ v w', K v w' Qm → next (act N (upd ρ d v)) w') : Oper.wp P ⟨some d, .alloc t, ty, pos, aft, g⟩ (act N ρ) w next Qx := by
  refine wp_run ?_ (c _ _ h)
  unfold zeroIs at hz
  cases hu : P.info? t with
  | none => simp [hu] at hz
  | some i =>
    simp [hu] at hz
    simp [execOp, Instr.alloc, zeroValue, typeInfo, hu, hz, newVar, newRow, hc, psh]
theorem P_bx {t : TypeId} {x : Operand} (h : bx t (opv N ρ x) K w Qm) (c : ∀ v w', K v w' Qm → next (act N (upd ρ d v)) w') : Oper.wp P ⟨some d, .box t x, ty, pos, aft, g⟩ (act N ρ) w next Qx := by
  refine wp_run ?_ (c _ _ h)
  simp [execOp, Instr.box, newVar, newRow, psh]
theorem P_ex {i : Nat} {x : Operand} (h : ex i (opv N ρ x) K w Qm) (c : ∀ v w', K v w' Qm → next (act N (upd ρ d v)) w') : Oper.wp P ⟨some d, .extract x i, ty, pos, aft, g⟩ (act N ρ) w next Qx := by
  obtain ⟨vs, v, hx, hv, hk⟩ := h
  exact wp_run (by simp [execOp, hx, Instr.extract, hv]) (c _ _ hk)
theorem P_lnl {t : TypeId} {x : Operand} (ht : isSl P t = true) (h : lnl (opv N ρ x) K w Qm) (c : ∀ v w', K v w' Qm → next (act N (upd ρ d v)) w') : Oper.wp P ⟨some d, .call ⟨.builtin .len, #[x], #[t]⟩, ty, pos, aft, g⟩ (act N ρ) w next Qx := by
  obtain ⟨a, l, cp, hx, hk⟩ := h
  refine wp_run ?_ (c _ _ hk)
  unfold isSl at ht
  cases hu : P.underlying t with
  | none => simp [hu] at ht
  | some u =>
    cases u <;> simp [hu] at ht
    simp [execOp, hx, resolve, invoke, builtin, Builtin.len_, underlying, hu, goInt]
theorem P_lns {t : TypeId} {x : Operand} (ht : isStr P t = true) (h : lns (opv N ρ x) K w Qm) (c : ∀ v w', K v w' Qm → next (act N (upd ρ d v)) w') : Oper.wp P ⟨some d, .call ⟨.builtin .len, #[x], #[t]⟩, ty, pos, aft, g⟩ (act N ρ) w next Qx := by
  obtain ⟨s, hx, hk⟩ := h
  refine wp_run ?_ (c _ _ hk)
  unfold isStr at ht
  cases hu : P.underlying t with
  | none => simp [hu] at ht
  | some u =>
    cases u <;> simp [hu] at ht
    simp [execOp, hx, resolve, invoke, builtin, Builtin.len_, underlying, hu, goInt]
theorem P_mnm {t : TypeId} {x y : Operand} {ts : Array TypeId} (h : mnm (opv N ρ x) (opv N ρ y) K w Qm) (c : ∀ v w', K v w' Qm → next (act N (upd ρ d v)) w') : Oper.wp P ⟨some d, .call ⟨.builtin .min, #[x, y], ts⟩, ty, pos, aft, g⟩ (act N ρ) w next Qx := by
  obtain ⟨k, a, b, hx, hy, hk⟩ := h
  refine wp_run ?_ (c _ _ hk)
  simp [execOp, hx, hy, resolve, invoke, builtin, Builtin.min_, Builtin.min2]
theorem P_mxm {t : TypeId} {x y : Operand} {ts : Array TypeId} (h : mxm (opv N ρ x) (opv N ρ y) K w Qm) (c : ∀ v w', K v w' Qm → next (act N (upd ρ d v)) w') : Oper.wp P ⟨some d, .call ⟨.builtin .max, #[x, y], ts⟩, ty, pos, aft, g⟩ (act N ρ) w next Qx := by
  obtain ⟨k, a, b, hx, hy, hk⟩ := h
  refine wp_run ?_ (c _ _ hk)
  simp [execOp, hx, hy, resolve, invoke, builtin, Builtin.max_, Builtin.max2]
theorem P_ia {t : TypeId} {n : Nat} {x y : Operand} (ht : slE P t n = true) (h : ia n (opv N ρ x) (opv N ρ y) K w Qm) (c : ∀ v w', K v w' Qm → next (act N (upd ρ d v)) w') : Oper.wp P ⟨some d, .indexAddr t x y, ty, pos, aft, g⟩ (act N ρ) w next Qx := by
  obtain ⟨a, l, cp, k, j, hx, hy, h0, hl, hk⟩ := h
  refine wp_run ?_ (c _ _ hk)
  unfold slE at ht
  cases hu : P.underlying t with
  | none => simp [hu] at ht
  | some u =>
    cases u <;> simp [hu] at ht
    obtain ⟨i, hi, hs⟩ := ht
    simp [execOp, hx, hy, Instr.indexAt, asIntOf, underlying, hu, sizeOf, typeInfo, hi, hs, h0, hl]
theorem P_iaa {t : TypeId} {len n : Nat} {x y : Operand} (ht : arE P t len n = true) (h : iaa len n (opv N ρ x) (opv N ρ y) K w Qm) (c : ∀ v w', K v w' Qm → next (act N (upd ρ d v)) w') : Oper.wp P ⟨some d, .indexAddr t x y, ty, pos, aft, g⟩ (act N ρ) w next Qx := by
  obtain ⟨a, k, j, hx, hy, h0, hl, hk⟩ := h
  refine wp_run ?_ (c _ _ hk)
  unfold arE at ht
  cases hu : P.underlying t with
  | none => simp [hu] at ht
  | some u =>
    cases u <;> simp [hu] at ht
    obtain ⟨h1, i, hi, hs⟩ := ht
    subst h1
    simp [execOp, hx, hy, Instr.indexAt, Instr.sureAddr, asIntOf, underlying, hu, sizeOf, typeInfo, hi, hs, h0, hl]
theorem P_ixs {t : TypeId} {x y : Operand} (ht : isStr P t = true) (h : ixs (opv N ρ x) (opv N ρ y) K w Qm) (c : ∀ v w', K v w' Qm → next (act N (upd ρ d v)) w') : Oper.wp P ⟨some d, .index t x y, ty, pos, aft, g⟩ (act N ρ) w next Qx := by
  obtain ⟨s, k, j, b, hx, hy, h0, hb, hk⟩ := h
  refine wp_run ?_ (c _ _ hk)
  unfold isStr at ht
  cases hu : P.underlying t with
  | none => simp [hu] at ht
  | some u =>
    cases u <;> simp [hu] at ht
    simp [execOp, hx, hy, Instr.index, asIntOf, underlying, hu, h0, hb]
theorem run_bound {o : Option Value} {dflt m l : Nat} {v : Value} {code : BoundsCode} (h : bnd o dflt m l) (ho : o = some v) : (Instr.sliceBound v m code).run P w = .ok l w := by
  subst ho
  obtain ⟨k, j, rfl, h0, h1, rfl⟩ := h
  simp [Instr.sliceBound, asIntOf, h0, h1]
theorem P_sls {t : TypeId} {x : Operand} {lo hi : Option Operand} (ht : isStr P t = true) (h : sls (opv N ρ x) (lo.map (opv N ρ)) (hi.map (opv N ρ)) K w Qm) (c : ∀ v w', K v w' Qm → next (act N (upd ρ d v)) w') : Oper.wp P ⟨some d, .slice t x lo hi none, ty, pos, aft, g⟩ (act N ρ) w next Qx := by
  obtain ⟨s, l, hh, hx, h1, h2, hk⟩ := h
  refine wp_run ?_ (c _ _ hk)
  unfold isStr at ht
  cases hu : P.underlying t with
  | none => simp [hu] at ht
  | some u =>
    cases u <;> simp [hu] at ht
    cases lo with
    | none =>
      simp only [Option.map_none] at h2
      have h2' : l = 0 := h2
      subst h2'
      cases hi with
      | none => have h1' : hh = s.size := h1; subst h1'; simp [execOp, hx, Instr.sliceAt, Instr.slice, underlying, hu, Instr.sliceBounds]
      | some y => have := run_bound (P := P) (w := w) (code := .sliceAlen) h1 rfl; simp [execOp, hx, Instr.sliceAt, Instr.slice, underlying, hu, Instr.sliceBounds, this]
    | some z =>
      have h2' := run_bound (P := P) (w := w) (code := .sliceB) h2 rfl
      cases hi with
      | none => have h1' : hh = s.size := h1; subst h1'; simp [execOp, hx, Instr.sliceAt, Instr.slice, underlying, hu, Instr.sliceBounds, h2']
      | some y => have := run_bound (P := P) (w := w) (code := .sliceAlen) h1 rfl; simp [execOp, hx, Instr.sliceAt, Instr.slice, underlying, hu, Instr.sliceBounds, this, h2']
theorem P_sll {t : TypeId} {n : Nat} {x : Operand} {lo hi : Option Operand} (ht : slE P t n = true) (h : sll n (opv N ρ x) (lo.map (opv N ρ)) (hi.map (opv N ρ)) K w Qm) (c : ∀ v w', K v w' Qm → next (act N (upd ρ d v)) w') : Oper.wp P ⟨some d, .slice t x lo hi none, ty, pos, aft, g⟩ (act N ρ) w next Qx := by
  obtain ⟨a, len, cap, l, hh, hx, h1, h2, hk⟩ := h
  refine wp_run ?_ (c _ _ hk)
  unfold slE at ht
  cases hu : P.underlying t with
  | none => simp [hu] at ht
  | some u =>
    cases u <;> simp [hu] at ht
    obtain ⟨i, hi', hs⟩ := ht
    cases lo with
    | none =>
      have h2' : l = 0 := h2
      subst h2'
      cases hi with
      | none => have h1' : hh = len := h1; subst h1'; simp [execOp, hx, Instr.sliceAt, Instr.slice, underlying, hu, Instr.sliceBounds, sizeOf, typeInfo, hi', hs]
      | some y => have := run_bound (P := P) (w := w) (code := .sliceAcap) h1 rfl; simp [execOp, hx, Instr.sliceAt, Instr.slice, underlying, hu, Instr.sliceBounds, this, sizeOf, typeInfo, hi', hs]
    | some z =>
      have h2' := run_bound (P := P) (w := w) (code := .sliceB) h2 rfl
      cases hi with
      | none => have h1' : hh = len := h1; subst h1'; simp [execOp, hx, Instr.sliceAt, Instr.slice, underlying, hu, Instr.sliceBounds, h2', sizeOf, typeInfo, hi', hs]
      | some y => have := run_bound (P := P) (w := w) (code := .sliceAcap) h1 rfl; simp [execOp, hx, Instr.sliceAt, Instr.slice, underlying, hu, Instr.sliceBounds, this, h2', sizeOf, typeInfo, hi', hs]
theorem P_sla {t : TypeId} {len n : Nat} {x : Operand} {lo hi : Option Operand} (ht : arE P t len n = true) (h : sla len n (opv N ρ x) (lo.map (opv N ρ)) (hi.map (opv N ρ)) K w Qm) (c : ∀ v w', K v w' Qm → next (act N (upd ρ d v)) w') : Oper.wp P ⟨some d, .slice t x lo hi none, ty, pos, aft, g⟩ (act N ρ) w next Qx := by
  obtain ⟨a, l, hh, hx, h1, h2, hk⟩ := h
  refine wp_run ?_ (c _ _ hk)
  unfold arE at ht
  cases hu : P.underlying t with
  | none => simp [hu] at ht
  | some u =>
    cases u <;> simp [hu] at ht
    obtain ⟨h3, i, hi', hs⟩ := ht
    subst h3
    cases lo with
    | none =>
      have h2' : l = 0 := h2
      subst h2'
      cases hi with
      | none => have h1' := h1; simp only [Option.map_none, bnd] at h1'; subst h1'; simp [execOp, hx, Instr.sliceAt, Instr.sureAddr, underlying, hu, Instr.sliceBounds, sizeOf, typeInfo, hi', hs]
      | some y => have := run_bound (P := P) (w := w) (code := .sliceAlen) h1 rfl; simp [execOp, hx, Instr.sliceAt, Instr.sureAddr, underlying, hu, Instr.sliceBounds, this, sizeOf, typeInfo, hi', hs]
    | some z =>
      have h2' := run_bound (P := P) (w := w) (code := .sliceB) h2 rfl
      cases hi with
      | none => have h1' := h1; simp only [Option.map_none, bnd] at h1'; subst h1'; simp [execOp, hx, Instr.sliceAt, Instr.sureAddr, underlying, hu, Instr.sliceBounds, h2', sizeOf, typeInfo, hi', hs]
      | some y => have := run_bound (P := P) (w := w) (code := .sliceAlen) h1 rfl; simp [execOp, hx, Instr.sliceAt, Instr.sureAddr, underlying, hu, Instr.sliceBounds, this, h2', sizeOf, typeInfo, hi', hs]
theorem P_mif {t : TypeId} {x : Operand} (ht : isConc P t = true) (h : mif t (opv N ρ x) K w Qm) (c : ∀ v w', K v w' Qm → next (act N (upd ρ d v)) w') : Oper.wp P ⟨some d, .makeInterface t x, ty, pos, aft, g⟩ (act N ρ) w next Qx := by
  refine wp_run ?_ (c _ _ h)
  unfold isConc at ht
  cases hu : P.underlying t with
  | none => simp [hu] at ht
  | some u => cases u <;> simp [hu] at ht <;> simp [execOp, Instr.makeInterface, underlying, hu]
theorem P_mf {fn : Fn} {first cap : Array Operand} (h : idv (.func fn (first.map (opv N ρ)) (cap.map (opv N ρ))) K w Qm) (c : ∀ v w', K v w' Qm → next (act N (upd ρ d v)) w') : Oper.wp P ⟨some d, .makeFunc fn first cap, ty, pos, aft, g⟩ (act N ρ) w next Qx :=
  wp_run (by simp [execOp, Instr.makeFunc]) (c _ _ h)
theorem P_mm {t : TypeId} (h : mm K w Qm) (c : ∀ v w', K v w' Qm → next (act N (upd ρ d v)) w') : Oper.wp P ⟨some d, .makeMap t none, ty, pos, aft, g⟩ (act N ρ) w next Qx :=
  wp_run (by simp [execOp, Instr.makeMap, psh]) (c _ _ h)
theorem P_asrt {s t : TypeId} {x : Operand} (ht : isConc P t = true) (h : asrt t (opv N ρ x) K w Qm) (c : ∀ v w', K v w' Qm → next (act N (upd ρ d v)) w') : Oper.wp P ⟨some d, .typeAssert x s t false, ty, pos, aft, g⟩ (act N ρ) w next Qx := by
  obtain ⟨v, hx, hk⟩ := h
  refine wp_run ?_ (c _ _ hk)
  unfold isConc at ht
  cases hu : P.underlying t with
  | none => simp [hu] at ht
  | some u => cases u <;> simp [hu] at ht <;> simp [execOp, hx, Instr.typeAssert, underlying, hu]
/-- Whatever operation yields a value: by its own run. -/
theorem P_sm {op : Op} {s : Sem Value} (he : execOp (opv N ρ) ⟨some d, op, ty, pos, aft, g⟩ = (do pure (.value (← s)))) (h : sm P s K w Qm) (c : ∀ v w', K v w' Qm → next (act N (upd ρ d v)) w') : Oper.wp P ⟨some d, op, ty, pos, aft, g⟩ (act N ρ) w next Qx := by
  obtain ⟨v, w', hr, hk⟩ := h
  exact wp_run (by rw [he]; simp [hr]) (c _ _ hk)
theorem P_smn {op : Op} {s : Sem Value} (he : execOp (opv N ρ) ⟨none, op, ty, pos, aft, g⟩ = (do pure (.value (← s)))) (h : sm P s (fun _ => K0) w Qm) (c : ∀ w', K0 w' Qm → next (act N ρ) w') : Oper.wp P ⟨none, op, ty, pos, aft, g⟩ (act N ρ) w next Qx := by
  obtain ⟨v, w', hr, hk⟩ := h
  exact wp_runv (v := v) (by rw [he]; simp [hr]) (c _ hk)
theorem P_smu {op : Op} {s : Sem Unit} (he : execOp (opv N ρ) ⟨none, op, ty, pos, aft, g⟩ = (do s; pure .skip)) (h : smu P s K0 w Qm) (c : ∀ w', K0 w' Qm → next (act N ρ) w') : Oper.wp P ⟨none, op, ty, pos, aft, g⟩ (act N ρ) w next Qx := by
  obtain ⟨w', hr, hk⟩ := h
  exact wp_run0 (by rw [he]; simp [hr]) (c _ hk)
/-! calls -/
theorem P_cc {fn : Func} {b : Code} {f : FuncId} {xs : Array Operand} {ts : Array TypeId} (hf : P.funcs[f]? = some fn) (hb : fn.body = some b) (hn : (fn.name == "runtime.NumGoroutine") = false)
    (h : cc P f (xs.map (opv N ρ)) K w Qm) (c : ∀ v w', K v w' Qm → next (act N (upd ρ d v)) w') : Oper.wp P ⟨some d, .call ⟨.value (.func f), xs, ts⟩, ty, pos, aft, g⟩ (act N ρ) w next Qx := by
  have hr : (execOp (act N ρ).eval ⟨some d, .call ⟨.value (.func f), xs, ts⟩, ty, pos, aft, g⟩).run P w = .ok (.enter f (xs.map (opv N ρ))) w := by
    have hn' : ¬ fn.name = "runtime.NumGoroutine" := by simpa using hn
    simp [eval_act, execOp, resolve, opv, Deferred.ofValue, invoke, callFunc, hf, hb, hn']
  simp only [Oper.wp, hr, Oper.upon]
  exact Calls.mono h fun e w' he => by
    cases e with
    | returned v => simp only [put_act]; exact c _ _ he
    | panicked ch => exact he.elim
    | outgrown => exact he.elim
theorem P_ccn {fn : Func} {b : Code} {f : FuncId} {xs : Array Operand} {ts : Array TypeId} (hf : P.funcs[f]? = some fn) (hb : fn.body = some b) (hn : (fn.name == "runtime.NumGoroutine") = false)
    (h : cc P f (xs.map (opv N ρ)) (fun _ => K0) w Qm) (c : ∀ w', K0 w' Qm → next (act N ρ) w') : Oper.wp P ⟨none, .call ⟨.value (.func f), xs, ts⟩, ty, pos, aft, g⟩ (act N ρ) w next Qx := by
  have hr : (execOp (act N ρ).eval ⟨none, .call ⟨.value (.func f), xs, ts⟩, ty, pos, aft, g⟩).run P w = .ok (.enter f (xs.map (opv N ρ))) w := by
    have hn' : ¬ fn.name = "runtime.NumGoroutine" := by simpa using hn
    simp [eval_act, execOp, resolve, opv, Deferred.ofValue, invoke, callFunc, hf, hb, hn']
  simp only [Oper.wp, hr, Oper.upon]
  exact Calls.mono h fun e w' he => by
    cases e with
    | returned v => exact c _ he
    | panicked ch => exact he.elim
    | outgrown => exact he.elim
theorem P_cl {fn : Func} {b : Code} {f : FuncId} {F : M} {xs : Array Operand} {ts : Array TypeId} (hf : P.funcs[f]? = some fn) (hb : fn.body = some b) (hn : (fn.name == "runtime.NumGoroutine") = false)
    (hs : ∀ w Q, F w Q → Calls P f (xs.map (opv N ρ)) w (Rt Q))
    (h : cl F K w Qm) (c : ∀ v w', K v w' Qm → next (act N (upd ρ d v)) w') : Oper.wp P ⟨some d, .call ⟨.value (.func f), xs, ts⟩, ty, pos, aft, g⟩ (act N ρ) w next Qx :=
  P_cc hf hb hn (hs _ _ h) c
theorem P_cln {fn : Func} {b : Code} {f : FuncId} {F : M} {xs : Array Operand} {ts : Array TypeId} (hf : P.funcs[f]? = some fn) (hb : fn.body = some b) (hn : (fn.name == "runtime.NumGoroutine") = false)
    (hs : ∀ w Q, F w Q → Calls P f (xs.map (opv N ρ)) w (Rt Q))
    (h : cl F (fun _ => K0) w Qm) (c : ∀ w', K0 w' Qm → next (act N ρ) w') : Oper.wp P ⟨none, .call ⟨.value (.func f), xs, ts⟩, ty, pos, aft, g⟩ (act N ρ) w next Qx :=
  P_ccn hf hb hn (hs _ _ h) c
theorem P_cf {x : Operand} {xs : Array Operand} {ts : Array TypeId}
    (h : cf P (opv N ρ x) (xs.map (opv N ρ)) K w Qm) (c : ∀ v w', K v w' Qm → next (act N (upd ρ d v)) w') : Oper.wp P ⟨some d, .call ⟨.value x, xs, ts⟩, ty, pos, aft, g⟩ (act N ρ) w next Qx := by
  obtain ⟨f, z, cap, hx, hr, hk⟩ := h
  have hr : (execOp (act N ρ).eval ⟨some d, .call ⟨.value x, xs, ts⟩, ty, pos, aft, g⟩).run P w = .ok (.enter f (z ++ xs.map (opv N ρ) ++ cap)) w := by
    simp only [eval_act, execOp, resolve, hx, Deferred.ofValue, invoke, pure_bind, hr]
  simp only [Oper.wp, hr, Oper.upon]
  exact Calls.mono hk fun e w' he => by
    cases e with
    | returned v => simp only [put_act]; exact c _ _ he
    | panicked ch => exact he.elim
    | outgrown => exact he.elim
theorem P_ci {x : Operand} {m : String} {xs : Array Operand} {ts : Array TypeId}
    (h : ci P (opv N ρ x) m (xs.map (opv N ρ)) K w Qm) (c : ∀ v w', K v w' Qm → next (act N (upd ρ d v)) w') : Oper.wp P ⟨some d, .call ⟨.invoke x m, xs, ts⟩, ty, pos, aft, g⟩ (act N ρ) w next Qx := by
  obtain ⟨f, gs, w1, hr, hk⟩ := h
  have hr : (execOp (act N ρ).eval ⟨some d, .call ⟨.invoke x m, xs, ts⟩, ty, pos, aft, g⟩).run P w = .ok (.enter f gs) w1 := by
    have e : (#[opv N ρ x] ++ xs.map (opv N ρ)).extract 1 (#[opv N ρ x] ++ xs.map (opv N ρ)).size = xs.map (opv N ρ) := by
      apply Array.ext'
      simp [List.extract_eq_take_drop]
      rw [List.take_of_length_le (by simp)]
    have e0 : (#[opv N ρ x] ++ xs.map (opv N ρ))[0]? = some (opv N ρ x) := by
      rw [Array.getElem?_append_left (by exact Nat.zero_lt_one)]; rfl
    simp only [eval_act, execOp, resolve]
    rw [pure_bind]
    simp only [invoke, e0, e]
    rw [hr]
  simp only [Oper.wp, hr, Oper.upon]
  exact Calls.mono hk fun e w' he => by
    cases e with
    | returned v => simp only [put_act]; exact c _ _ he
    | panicked ch => exact he.elim
    | outgrown => exact he.elim
theorem P_cin {x : Operand} {m : String} {xs : Array Operand} {ts : Array TypeId}
    (h : ci P (opv N ρ x) m (xs.map (opv N ρ)) (fun _ => K0) w Qm) (c : ∀ w', K0 w' Qm → next (act N ρ) w') : Oper.wp P ⟨none, .call ⟨.invoke x m, xs, ts⟩, ty, pos, aft, g⟩ (act N ρ) w next Qx := by
  obtain ⟨f, gs, w1, hr, hk⟩ := h
  have hr : (execOp (act N ρ).eval ⟨none, .call ⟨.invoke x m, xs, ts⟩, ty, pos, aft, g⟩).run P w = .ok (.enter f gs) w1 := by
    have e : (#[opv N ρ x] ++ xs.map (opv N ρ)).extract 1 (#[opv N ρ x] ++ xs.map (opv N ρ)).size = xs.map (opv N ρ) := by
      apply Array.ext'
      simp [List.extract_eq_take_drop]
      rw [List.take_of_length_le (by simp)]
    have e0 : (#[opv N ρ x] ++ xs.map (opv N ρ))[0]? = some (opv N ρ x) := by
      rw [Array.getElem?_append_left (by exact Nat.zero_lt_one)]; rfl
    simp only [eval_act, execOp, resolve]
    rw [pure_bind]
    simp only [invoke, e0, e]
    rw [hr]
  simp only [Oper.wp, hr, Oper.upon]
  exact Calls.mono hk fun e w' he => by
    cases e with
    | returned v => exact c _ he
    | panicked ch => exact he.elim
    | outgrown => exact he.elim
/-! code -/
theorem C_cnd {x : Operand} {A B : Code} {Am Bm : M} (h : cnd (opv N ρ x) Am Bm w Qm) (ha : Am w Qm → A.wp P Qx (act N ρ) w) (hb : Bm w Qm → B.wp P Qx (act N ρ) w) : (Code.cond x A B).wp P Qx (act N ρ) w := by
  obtain ⟨b, hx, hk⟩ := h
  cases b with
  | true => exact wp_cond_true (by rw [eval_act]; exact hx) (ha hk)
  | false => exact wp_cond_false (by rw [eval_act]; exact hx) (hb hk)
theorem C_loop {c : Code} (I : Nat → Act → World → Prop) {a : Act} {n : Nat} (h0 : I n a w)
    (round : ∀ n a w, I n a w → c.wp P (Exit.then (fun a' w' => ∃ m, m < n ∧ I m a' w') Qx) a w) : (Code.loop c).wp P Qx a w := by
  intro b k cs
  have key : ∀ n a w, I n a w → ∃ e a' w', Qx e a' w' ∧ Arrives P (lone (b.at a (.code c :: .inLoop c :: k)) cs w) b k cs e a' w' := by
    intro n
    induction n using Nat.strongRecOn with
    | _ n ih =>
      intro a w hI
      obtain ⟨e, a₁, w₁, hq, harr⟩ := round n a w hI b (.inLoop c :: k) cs
      cases e with
      | normal =>
        obtain ⟨m, hlt, hI₁⟩ := hq
        obtain ⟨e₂, a₂, w₂, hq₂, harr₂⟩ := ih m hlt a₁ w₁ hI₁
        exact ⟨e₂, a₂, w₂, hq₂, .of_steps (Steps.trans harr (.one step_inLoop)) harr₂⟩
      | exit id => exact ⟨_, a₁, w₁, hq, .pass (x := .inLoop c) rfl (fun _ _ => .inl (by simp)) harr⟩
      | goto l => exact ⟨_, a₁, w₁, hq, .pass (x := .inLoop c) rfl (fun _ _ => .inl (by simp)) harr⟩
      | ret => exact ⟨_, a₁, w₁, hq, .pass (x := .inLoop c) rfl (fun _ _ => .inl (by simp)) harr⟩
      | panic ch => exact ⟨_, a₁, w₁, hq, .pass (x := .inLoop c) rfl (fun _ _ => .inl (by simp)) harr⟩
      | outgrown => exact ⟨_, a₁, w₁, hq, .pass (x := .inLoop c) rfl (fun _ _ => .inl (by simp)) harr⟩
  obtain ⟨e, a', w', hq, harr⟩ := key _ a w h0
  exact ⟨e, a', w', hq, .of_steps (.one step_loop) harr⟩
theorem C_ret {a : Act} (h : Qx .ret a w) : Code.ret.wp P Qx a w := wp_ret h
theorem C_skip {a : Act} (h : Qx .normal a w) : Code.skip.wp P Qx a w := wp_skip h
theorem C_exit {a : Act} {id : Nat} (h : Qx (.exit id) a w) : (Code.exit id).wp P Qx a w := wp_exit h
def rvOf (tmps : Array Value) : ResultVar → Sem Value
  | .tmp t => pure (tmps.getD t undef)
  | .cell a t => do loadVar t (← asAddr (tmps.getD a undef))
/-- the end of a body: what it hands back -/
theorem post_tmps {fn : Func} {ts : List Nat} {e : Exit} (he : e = .normal ∨ e = .ret) (hr : fn.results = (ts.map ResultVar.tmp).toArray)
    (h : Qm (match ts.map (fun t => opv N ρ (.tmp t)) with | [v] => v | vs => .tuple vs.toArray) w) : bodyPost P fn (Rt Qm) e (act N ρ) w := by
  have hv : (results fn (act N ρ).tmps).run P w = .ok (match ts.map (fun t => opv N ρ (.tmp t)) with | [v] => v | vs => .tuple vs.toArray) w := by
    obtain ⟨nm, og, tg, ps, rts, nf, nt, rs, bd, nr, ou, fi, el, ln, mt, tn⟩ := fn
    simp only at hr
    subst hr
    have h1 : results ⟨nm, og, tg, ps, rts, nf, nt, (ts.map ResultVar.tmp).toArray, bd, nr, ou, fi, el, ln, mt, tn⟩ (act N ρ).tmps = (do
      let vs ← (ts.map ResultVar.tmp).toArray.mapM (rvOf (act N ρ).tmps)
      pure (if h : vs.size = 1 then vs[0] else .tuple vs)) := rfl
    have hm : (ts.map ResultVar.tmp).toArray.mapM (rvOf (act N ρ).tmps) = pure (ts.map (fun t => opv N ρ (.tmp t))).toArray := by
      rw [List.mapM_toArray]
      have : ∀ l : List Nat, (l.map ResultVar.tmp).mapM (rvOf (act N ρ).tmps) = pure (l.map (fun t => opv N ρ (.tmp t))) := by
        intro l
        induction l with
        | nil => rfl
        | cons t l ih =>
          simp only [List.map_cons, List.mapM_cons, ih]
          simp only [rvOf, tmps_act, opv, pure_bind]
      rw [this]; simp
    rw [h1, hm]
    simp only [pure_bind, Sem.run_pure]
    match ts with
    | [] => rfl
    | [v] => rfl
    | a :: b :: r => rfl
  rcases he with rfl | rfl
  · exact ⟨rfl, _, hv, h⟩
  · exact ⟨rfl, _, hv, h⟩
end
end Sh
end Go.Proofs.Ytlmiimojgledpaa

namespace Go.Proofs.Ytlmiimojgledpaa
namespace Sh
/-- Q, but False at a panic. -/
def noP (Q : Exit → Act → World → Prop) : Exit → Act → World → Prop
  | .panic _, _, _ => False
  | e, a, w => Q e a w
theorem noP_imp {Q : Exit → Act → World → Prop} : ∀ (e : Exit) (a : Act) (w : World), noP Q e a w → Q e a w := fun e a w h => by
  cases e <;> first | exact h | exact (h : False).elim

/-- Operation j waits for i, directly or by others. -/
inductive Dep (ops : Array Oper) : Nat → Nat → Prop where
  | one {j i : Nat} {o : Oper} {e : Edge} : ops[j]? = some o → e ∈ o.after → Region.binds .any e = true → e.on = i → Dep ops j i
  | more {j i : Nat} {o : Oper} {e : Edge} : ops[j]? = some o → e ∈ o.after → Region.binds .any e = true → Dep ops e.on i → Dep ops j i
def pathB (ops : Array Oper) : Nat → List Nat → Bool
  | _, [] => false
  | j, [i] => match ops[j]? with
    | some o => o.after.any fun e => Region.binds .any e && e.on == i
    | none => false
  | j, k :: l => (match ops[j]? with
    | some o => o.after.any fun e => Region.binds .any e && e.on == k
    | none => false) && pathB ops k l
theorem edge_of {ops : Array Oper} {j k : Nat} (h : (match ops[j]? with
    | some o => o.after.any fun e => Region.binds .any e && e.on == k
    | none => false) = true) : ∃ o e, ops[j]? = some o ∧ e ∈ o.after ∧ Region.binds .any e = true ∧ e.on = k := by
  cases ho : ops[j]? with
  | none => simp [ho] at h
  | some o =>
    simp only [ho] at h
    obtain ⟨e, he, hb⟩ := Array.any_eq_true'.1 h
    simp only [Bool.and_eq_true, beq_iff_eq] at hb
    exact ⟨o, e, rfl, he, hb.1, hb.2⟩
theorem dep_path {ops : Array Oper} : ∀ (l : List Nat) (j : Nat), pathB ops j l = true → ∀ i, l.getLast? = some i → Dep ops j i := by
  intro l
  induction l with
  | nil => intro j h; simp [pathB] at h
  | cons k l ih =>
    intro j h i hi
    cases l with
    | nil =>
      simp at hi; subst hi
      obtain ⟨o, e, h1, h2, h3, h4⟩ := edge_of h
      exact .one h1 h2 h3 h4
    | cons k2 l =>
      simp only [pathB, Bool.and_eq_true] at h
      obtain ⟨o, e, h1, h2, h3, h4⟩ := edge_of h.1
      have := ih k h.2 i (by simpa [List.getLast?_cons_cons] using hi)
      subst h4
      exact .more h1 h2 h3 this
abbrev Facts := List (Nat × (World → Prop))
def keepF (ops : Array Oper) (fs : Facts) (j : Nat) (w w' : World) : Prop := ∀ p ∈ fs, ¬ Dep ops j p.1 → p.2 w → p.2 w'
def closedL (ops : Array Oper) (listed : Array Bool) : Prop := ∀ j o, ops[j]? = some o → listed.getD j false = true → ∀ e ∈ o.after, Region.binds .any e = true → listed.getD e.on false = true
section
variable {P : Program} {ops : Array Oper} {Q : Exit → Act → World → Prop}

def anyG (P : Program) (ops : Array Oper) (Q : Exit → Act → World → Prop) (fs : Facts) : Nat → Array Bool → Act → World → Prop
  | 0, listed, a, w => Region.ready .any ops listed = [] ∧ Q .normal a w
  | fuel + 1, listed, a, w =>
    (Region.ready .any ops listed = [] → Q .normal a w) ∧
    ∀ i ∈ Region.ready .any ops listed, wpOp P ops Q i (fun a' w' => keepF ops fs i w w' ∧ anyG P ops Q fs fuel (listed.setIfInBounds i true) a' w') a w
theorem any_of_G {fs : Facts} : ∀ (fuel : Nat) (listed : Array Bool) (a : Act) (w : World), anyG P ops Q fs fuel listed a w → wpAny P .any ops Q fuel listed a w
  | 0, _, _, _, h => h
  | fuel + 1, _, _, _, h => ⟨h.1, fun i hi => wpOp_mono (fun a' w' h' => any_of_G fuel _ a' w' h'.2) (h.2 i hi)⟩
theorem anyG_sub {fs fs' : Facts} (hs : ∀ p ∈ fs, p ∈ fs' ∨ ∀ w, p.2 w) : ∀ (fuel : Nat) (listed : Array Bool) (a : Act) (w : World), anyG P ops Q fs' fuel listed a w → anyG P ops Q fs fuel listed a w
  | 0, _, _, _, h => h
  | fuel + 1, _, _, _, h => ⟨h.1, fun i hi => wpOp_mono (fun a' w' h' => ⟨fun p hp hd hw => (hs p hp).elim (fun hp' => h'.1 p hp' hd hw) (fun ht => ht w'), anyG_sub hs fuel _ a' w' h'.2⟩) (h.2 i hi)⟩

theorem dep_listed {listed : Array Bool} (hc : closedL ops listed) {j i : Nat} (hd : Dep ops j i) : ∀ o, ops[j]? = some o → (∀ e ∈ o.after, Region.binds .any e = true → listed.getD e.on false = true) → listed.getD i false = true := by
  induction hd with
  | one h1 h2 h3 h4 =>
    intro o ho hall
    rw [h1] at ho; cases ho
    rw [← h4]; exact hall _ h2 h3
  | more h1 h2 h3 h4 ih =>
    intro o ho hall
    rw [h1] at ho; cases ho
    have hl := hall _ h2 h3
    cases h4 with
    | one k1 k2 k3 k4 => exact ih _ k1 (fun e' he' hb' => hc _ _ k1 hl e' he' hb')
    | more k1 k2 k3 k4 => exact ih _ k1 (fun e' he' hb' => hc _ _ k1 hl e' he' hb')

theorem closedL_set {listed : Array Bool} {i : Nat} (hc : closedL ops listed) (hr : i ∈ Region.ready .any ops listed) : closedL ops (listed.setIfInBounds i true) := by
  intro j o ho hl e he hb
  by_cases hji : i = j
  · subst hji
    obtain ⟨_, o', ho', hall⟩ := mem_ready.1 hr
    rw [ho] at ho'; cases ho'
    exact getD_set_true (hall e he hb)
  · rw [getD_set_ne false hji] at hl
    exact getD_set_true (hc j o ho hl e he hb)

/-- An operation that may come up now may be taken first. -/
theorem anyG_first {fs : Facts} {F : World → Prop} {i : Nat} {oi : Oper} {v : Value} (hi : ops[i]? = some oi) (hsel : ∀ (j : Nat) (o : Oper) cs b, ops[j]? = some o → o.op ≠ .select cs b)
    (hQ : ∀ c a w, Q (.panic c) (a.put oi.dst v) w → Q (.panic c) a w) :
    ∀ (fuel : Nat) (listed : Array Bool) (a : Act) (w : World), closedL ops listed →
      (∀ j oj, ops[j]? = some oj → j ≠ i → listed.getD j true = false → (∀ e ∈ oj.after, Region.binds .any e = true → e.on ≠ i) → oi.apart ops oj = true) →
      i ∈ Region.ready .any ops listed → YieldsIf P ops F oi v a → F w →
      anyG P ops Q ((i, F) :: fs) fuel (listed.setIfInBounds i true) (a.put oi.dst v) w → anyG P ops Q fs (fuel + 1) listed a w := by
  intro fuel
  induction fuel with
  | zero =>
    intro listed a w hcl _ hr hy hF H
    refine ⟨fun h => (by rw [h] at hr; cases hr), fun j hj => ?_⟩
    by_cases hji : j = i
    · subst hji; exact hy.wpOp hi hF ⟨fun p hp _ hw => hw, anyG_sub (fun p hp => .inl (.tail _ hp)) _ _ _ _ H⟩
    · have := ready_mono hj hji
      rw [H.1] at this
      cases this
  | succ fuel ih =>
    intro listed a w hcl hfree hr hy hF H
    refine ⟨fun h => (by rw [h] at hr; cases hr), fun j hj => ?_⟩
    by_cases hji : j = i
    · subst hji; exact hy.wpOp hi hF ⟨fun p hp _ hw => hw, anyG_sub (fun p hp => .inl (.tail _ hp)) _ _ _ _ H⟩
    · have h1 := H.2 j (ready_mono hj hji)
      obtain ⟨hjun, oj, hoj, hall⟩ := mem_ready.1 hj
      have hiun : listed.getD i false = false := by
        have h0 := (mem_ready.1 hr).1
        rcases Nat.lt_or_ge i listed.size with h' | h'
        · simp [h'] at h0 ⊢; exact h0
        · simp [Array.getElem?_eq_none h']
      have hnot : ∀ e ∈ oj.after, Region.binds .any e = true → e.on ≠ i := fun e he hb heq => by
        have h1 := hall e he hb
        rw [heq, hiun] at h1
        cases h1
      have hdep : ¬ Dep ops j i := fun hd => by
        have := dep_listed hcl hd _ hoj hall; rw [hiun] at this; cases this
      have h2 := wpOp_putIf hoj (hfree j oj hoj hji hjun hnot) (fun cs b => hsel i oi cs b hi) (fun cs b => hsel j oj cs b hoj) hQ hy h1
      have hfree' : ∀ k ok, ops[k]? = some ok → k ≠ i → (listed.setIfInBounds j true).getD k true = false →
          (∀ e ∈ ok.after, Region.binds .any e = true → e.on ≠ i) → oi.apart ops ok = true := fun k ok hk hki hun hno => by
        refine hfree k ok hk hki ?_ hno
        by_cases hjk : j = k
        · subst hjk; exact hjun
        · rw [getD_set_ne true hjk] at hun; exact hun
      refine wpOp_mono (fun a' w' h3 => ?_) h2
      obtain ⟨hy', hk, hG⟩ := h3
      refine ⟨fun p hp hd hw => hk p (.tail _ hp) hd hw, ih (listed.setIfInBounds j true) a' w' (closedL_set hcl hj) hfree' (ready_mono hr (Ne.symm hji)) hy' (hk (i, F) (.head _) hdep hF) ?_⟩
      rw [Array.setIfInBounds_comm _ _ hji]
      exact hG

theorem closedL_of {listed : Array Bool} (h : ((List.range ops.size).all fun j => match ops[j]? with
    | some o => !listed.getD j false || o.after.all fun e => !Region.binds .any e || listed.getD e.on false
    | none => true) = true) : closedL ops listed := by
  intro j o ho hl e he hb
  have hj : j < ops.size := (Array.getElem?_eq_some_iff.1 ho).1
  have h1 := List.all_eq_true.1 h j (List.mem_range.2 hj)
  simp only [ho, hl, Bool.not_true, Bool.false_or] at h1
  have h2 := Array.all_eq_true_iff_forall_mem.1 h1 e he
  simpa [hb] using h2
/-- The look at a step that is taken first. -/
def stepB (ops : Array Oper) (listed : Array Bool) (i : Nat) : Bool :=
  Region.noSelect ops && Region.free .any ops listed i && (Region.ready .any ops listed).contains i &&
  ((List.range ops.size).all fun j => match ops[j]? with
    | some o => !listed.getD j false || o.after.all fun e => !Region.binds .any e || listed.getD e.on false
    | none => true)
theorem anyG_take {fs : Facts} {F : World → Prop} {i : Nat} {oi : Oper} {v : Value} {fuel : Nat} {listed : Array Bool} {a : Act} {w : World} (hi : ops[i]? = some oi) (hs : stepB ops listed i = true)
    (hy : YieldsIf P ops F oi v a) (hF : F w) (h : anyG P ops (noP Q) ((i, F) :: fs) fuel (listed.setIfInBounds i true) (a.put oi.dst v) w) : anyG P ops (noP Q) fs (fuel + 1) listed a w := by
  simp only [stepB, Bool.and_eq_true] at hs
  obtain ⟨⟨⟨h1, h2⟩, h3⟩, h4⟩ := hs
  exact anyG_first hi (Region.noSelect_spec h1) (fun _ _ _ h => h.elim) fuel listed a w (closedL_of h4) (Region.free_spec hi h2) (by simpa using h3) hy hF h

variable {N : Nat} {ρ : Nat → Value} {w : World} {d : Nat} {ty : TypeId} {pos : String} {aft : Array Edge} {Qm : Value → World → Prop} {K : Value → M} {K0 : M} {fs : Facts} {fuel : Nat} {listed : Array Bool}

/-- an operation that looks at no memory -/
theorem G_p {op : Op} (i : Nat) (hi : ops[i]? = some ⟨some d, op, ty, pos, aft, none⟩) (hs : stepB ops listed i = true)
    (hy : ∃ v, (∀ w', (execOp (opv N ρ) ⟨some d, op, ty, pos, aft, none⟩).run P w' = .ok (.value v) w') ∧ K v w Qm)
    (c : ∀ v, K v w Qm → anyG P ops (noP Q) fs fuel (listed.setIfInBounds i true) (act N (upd ρ d v)) w) : anyG P ops (noP Q) fs (fuel + 1) listed (act N ρ) w := by
  obtain ⟨v, hr, hk⟩ := hy
  refine anyG_sub (fs' := fs) (fun p hp => .inl hp) _ _ _ _ (anyG_take (F := fun _ => True) (v := v) hi hs (.inl ⟨rfl, fun w' _ => by rw [eval_act]; exact hr w'⟩) trivial ?_)
  refine anyG_sub (fs' := fs) (fun p hp => ?_) _ _ _ _ (by rw [put_act]; exact c v hk)
  rcases List.mem_cons.1 hp with rfl | hp
  · exact .inr fun _ => trivial
  · exact .inl hp
theorem G_pg {op : Op} {A : (Value → M) → M} {t j : Nat} {want : Bool} (i : Nat) (hi : ops[i]? = some ⟨some d, op, ty, pos, aft, some (j, want)⟩) (hs : stepB ops listed i = true)
    (h : gd (ρ t) want A K w Qm) (hj : (ops[j]?).bind (·.dst) = some t) (ht : Nat.blt t N = true)
    (hy : A K w Qm → ∃ v, (∀ w', (execOp (opv N ρ) ⟨some d, op, ty, pos, aft, some (j, want)⟩).run P w' = .ok (.value v) w') ∧ K v w Qm)
    (c : ∀ v, K v w Qm → anyG P ops (noP Q) fs fuel (listed.setIfInBounds i true) (act N (upd ρ d v)) w) : anyG P ops (noP Q) fs (fuel + 1) listed (act N ρ) w := by
  have key : ∃ v, YieldsIf P ops (fun _ => True) ⟨some d, op, ty, pos, aft, some (j, want)⟩ v (act N ρ) ∧ K v w Qm := by
    unfold gd at h
    cases hb : gdB (ρ t) want <;> rw [hb] at h
    · exact ⟨undef, .inr ⟨by rw [wanted_act hj ht]; exact hb, rfl⟩, h⟩
    · obtain ⟨v, hr, hk⟩ := hy h
      exact ⟨v, .inl ⟨by rw [wanted_act hj ht]; exact hb, fun w' _ => by rw [eval_act]; exact hr w'⟩, hk⟩
  obtain ⟨v, hyy, hk⟩ := key
  refine anyG_sub (fs' := fs) (fun p hp => .inl hp) _ _ _ _ (anyG_take (F := fun _ => True) (v := v) hi hs hyy trivial ?_)
  refine anyG_sub (fs' := fs) (fun p hp => ?_) _ _ _ _ (by rw [put_act]; exact c v hk)
  rcases List.mem_cons.1 hp with rfl | hp
  · exact .inr fun _ => trivial
  · exact .inl hp
/-- an operation that reads memory -/
theorem G_r {op : Op} (F : Value → World → Prop) (i : Nat) (hi : ops[i]? = some ⟨some d, op, ty, pos, aft, none⟩) (hs : stepB ops listed i = true)
    (hy : ∃ v, F v w ∧ (∀ w', F v w' → (execOp (opv N ρ) ⟨some d, op, ty, pos, aft, none⟩).run P w' = .ok (.value v) w') ∧ K v w Qm)
    (c : ∀ v, K v w Qm → anyG P ops (noP Q) ((i, F v) :: fs) fuel (listed.setIfInBounds i true) (act N (upd ρ d v)) w) : anyG P ops (noP Q) fs (fuel + 1) listed (act N ρ) w := by
  obtain ⟨v, hF, hr, hk⟩ := hy
  exact anyG_take (F := F v) (v := v) hi hs (.inl ⟨rfl, fun w' hw' => by rw [eval_act]; exact hr w' hw'⟩) hF (by rw [put_act]; exact c v hk)
theorem G_rg {op : Op} {A : (Value → M) → M} {t j : Nat} {want : Bool} (F : Value → World → Prop) (i : Nat) (hi : ops[i]? = some ⟨some d, op, ty, pos, aft, some (j, want)⟩) (hs : stepB ops listed i = true)
    (h : gd (ρ t) want A K w Qm) (hj : (ops[j]?).bind (·.dst) = some t) (ht : Nat.blt t N = true)
    (hy : A K w Qm → ∃ v, F v w ∧ (∀ w', F v w' → (execOp (opv N ρ) ⟨some d, op, ty, pos, aft, some (j, want)⟩).run P w' = .ok (.value v) w') ∧ K v w Qm)
    (c : ∀ v, K v w Qm → anyG P ops (noP Q) ((i, fun w' => gdB (ρ t) want = true → F v w') :: fs) fuel (listed.setIfInBounds i true) (act N (upd ρ d v)) w) : anyG P ops (noP Q) fs (fuel + 1) listed (act N ρ) w := by
  unfold gd at h
  cases hb : gdB (ρ t) want <;> rw [hb] at h
  · exact anyG_take (F := fun w' => gdB (ρ t) want = true → F undef w') (v := undef) hi hs (.inr ⟨by rw [wanted_act hj ht]; exact hb, rfl⟩) (by rw [hb]; exact fun h => by cases h) (by rw [put_act]; exact c _ h)
  · obtain ⟨v, hF, hr, hk⟩ := hy h
    exact anyG_take (F := fun w' => gdB (ρ t) want = true → F v w') (v := v) hi hs (.inl ⟨by rw [wanted_act hj ht]; exact hb, fun w' hw' => by rw [eval_act]; exact hr w' (hw' hb)⟩) (fun _ => hF) (by rw [put_act]; exact c v hk)
/-- a deed that alone may come up -/
theorem G_e {op : Op} {dst : Option Tmp} (i : Nat) (hi : ops[i]? = some ⟨dst, op, ty, pos, aft, none⟩) (hr : Region.ready .any ops listed = [i])
    (h : Oper.wp P ⟨dst, op, ty, pos, aft, none⟩ (act N ρ) w (fun a' w' => keepF ops fs i w w' ∧ anyG P ops (noP Q) fs fuel (listed.setIfInBounds i true) a' w') (noP Q)) : anyG P ops (noP Q) fs (fuel + 1) listed (act N ρ) w := by
  refine ⟨(fun h0 => by rw [hr] at h0; cases h0), fun j hj => ?_⟩
  rw [hr] at hj
  simp only [List.mem_singleton] at hj
  subst hj
  simp only [wpOp, hi, Region.wanted, if_true]
  exact .inl h
theorem G_eg {op : Op} {A : (Value → M) → M} {t j : Nat} {want : Bool} (i : Nat) (hi : ops[i]? = some ⟨some d, op, ty, pos, aft, some (j, want)⟩) (hr : Region.ready .any ops listed = [i])
    (h : gd (ρ t) want A K w Qm) (hj : (ops[j]?).bind (·.dst) = some t) (ht : Nat.blt t N = true)
    (hp : (∀ v w', K v w' Qm → keepF ops fs i w w' ∧ anyG P ops (noP Q) fs fuel (listed.setIfInBounds i true) (act N (upd ρ d v)) w') → A K w Qm → Oper.wp P ⟨some d, op, ty, pos, aft, some (j, want)⟩ (act N ρ) w (fun a' w' => keepF ops fs i w w' ∧ anyG P ops (noP Q) fs fuel (listed.setIfInBounds i true) a' w') (noP Q))
    (c : ∀ v w', K v w' Qm → keepF ops fs i w w' ∧ anyG P ops (noP Q) fs fuel (listed.setIfInBounds i true) (act N (upd ρ d v)) w') : anyG P ops (noP Q) fs (fuel + 1) listed (act N ρ) w := by
  refine ⟨(fun h0 => by rw [hr] at h0; cases h0), fun k hk => ?_⟩
  rw [hr] at hk
  simp only [List.mem_singleton] at hk
  subst hk
  simp only [wpOp, hi, wanted_act hj ht]
  unfold gd at h
  cases hb : gdB (ρ t) want <;> rw [hb] at h
  · simp only [Bool.false_eq_true, if_false, put_act]; exact c _ _ h
  · simp only [if_true]; exact .inl (hp c h)
/-- two deeds neither of which waits for the other -/
def amb (A B : M) : M := fun w Q => A w Q ∧ B w Q
theorem G_two {i j : Nat} (hr : Region.ready .any ops listed = [i, j]) {a : Act}
    (h1 : wpOp P ops (noP Q) i (fun a' w' => keepF ops fs i w w' ∧ anyG P ops (noP Q) fs fuel (listed.setIfInBounds i true) a' w') a w)
    (h2 : wpOp P ops (noP Q) j (fun a' w' => keepF ops fs j w w' ∧ anyG P ops (noP Q) fs fuel (listed.setIfInBounds j true) a' w') a w) : anyG P ops (noP Q) fs (fuel + 1) listed a w := by
  refine ⟨(fun h0 => by rw [hr] at h0; cases h0), fun k hk => ?_⟩
  rw [hr] at hk
  simp only [List.mem_cons, List.not_mem_nil, or_false] at hk
  rcases hk with rfl | rfl
  · exact h1
  · exact h2
theorem G_op {op : Op} {dst : Option Tmp} {i : Nat} {X : Act → World → Prop} (hi : ops[i]? = some ⟨dst, op, ty, pos, aft, none⟩) (h : Oper.wp P ⟨dst, op, ty, pos, aft, none⟩ (act N ρ) w X (noP Q)) : wpOp P ops (noP Q) i X (act N ρ) w := by
  simp only [wpOp, hi, Region.wanted, if_true]; exact .inl h
theorem G_opg {op : Op} {A : (Value → M) → M} {t j i : Nat} {want : Bool} {X : Act → World → Prop} (hi : ops[i]? = some ⟨some d, op, ty, pos, aft, some (j, want)⟩)
    (h : gd (ρ t) want A K w Qm) (hj : (ops[j]?).bind (·.dst) = some t) (ht : Nat.blt t N = true)
    (hp : (∀ v w', K v w' Qm → X (act N (upd ρ d v)) w') → A K w Qm → Oper.wp P ⟨some d, op, ty, pos, aft, some (j, want)⟩ (act N ρ) w X (noP Q))
    (c : ∀ v w', K v w' Qm → X (act N (upd ρ d v)) w') : wpOp P ops (noP Q) i X (act N ρ) w := by
  simp only [wpOp, hi, wanted_act hj ht]
  unfold gd at h
  cases hb : gdB (ρ t) want <;> rw [hb] at h
  · simp only [Bool.false_eq_true, if_false, put_act]; exact c _ _ h
  · simp only [if_true]; exact .inl (hp c h)
theorem G_done {a : Act} (hr : Region.ready .any ops listed = []) (h : Q .normal a w) : anyG P ops (noP Q) fs fuel listed a w := by
  cases fuel with
  | zero => exact ⟨hr, h⟩
  | succ n => exact ⟨fun _ => h, by rw [hr]; simp⟩
/-- what is to be shown anew behind a deed -/
def kp (F : World → Prop) (K0 : M) : M := fun w Q => F w ∧ K0 w Q
theorem keepF_nil {j : Nat} {w w' : World} : keepF ops [] j w w' := fun _ h => by cases h
theorem keepF_cons {i j : Nat} {F : World → Prop} {w w' : World} (h : F w') (h' : keepF ops fs j w w') : keepF ops ((i, F) :: fs) j w w' := by
  intro p hp hd hw
  rcases List.mem_cons.1 hp with rfl | hp
  · exact h
  · exact h' p hp hd hw
theorem keepF_dep {i j : Nat} {F : World → Prop} {w w' : World} (l : List Nat) (h : pathB ops j l = true) (hl : l.getLast? = some i) (h' : keepF ops fs j w w') : keepF ops ((i, F) :: fs) j w w' := by
  intro p hp hd hw
  rcases List.mem_cons.1 hp with rfl | hp
  · exact absurd (dep_path l j h _ hl) hd
  · exact h' p hp hd hw
theorem D_region {id : Nat} {l : List Oper} {a : Act} (hm : P.follows .mixedOrders = true) (n : Nat) (hn : l.length = n)
    (h : anyG P l.toArray (noP Q) [] n (Array.replicate n false) a (drw w)) : (Code.region id l.toArray true).wp P Q a w := by
  refine wp_mono (Q := noP Q) (wp_region_any hm ?_) noP_imp
  have := any_of_G _ _ _ _ h
  subst hn
  simpa [drw] using this
end
end Sh
end Go.Proofs.Ytlmiimojgledpaa

namespace Go.Proofs.Ytlmiimojgledpaa
namespace Sh
section
variable {P : Program} {N : Nat} {ρ : Nat → Value} {w : World} {d : Nat} {ty : TypeId} {pos : String} {aft : Array Edge} {g : Option (Nat × Bool)}
  {Qm : Value → World → Prop} {K : Value → M} {K0 : M}

theorem Y_mv {x : Operand} (h : idv (opv N ρ x) K w Qm) :
    ∃ v, (∀ w', (execOp (opv N ρ) ⟨some d, .move x, ty, pos, aft, g⟩).run P w' = .ok (.value v) w') ∧ K v w Qm :=
  ⟨_, (fun w => by simp [execOp]), h⟩

theorem Y_as {x : Operand} (h : idv (opv N ρ x) K w Qm) :
    ∃ v, (∀ w', (execOp (opv N ρ) ⟨some d, .assign x, ty, pos, aft, g⟩).run P w' = .ok (.value v) w') ∧ K v w Qm :=
  ⟨_, (fun w => by simp [execOp]), h⟩

theorem Y_nc {x : Operand} (h : nc (opv N ρ x) K w Qm) :
    ∃ v, (∀ w', (execOp (opv N ρ) ⟨some d, .nilCheck x, ty, pos, aft, g⟩).run P w' = .ok (.value v) w') ∧ K v w Qm := by
  obtain ⟨h1, h2⟩ := h
  refine ⟨_, fun w => ?_, h2⟩
  revert h1
  simp only [execOp]
  generalize opv N ρ x = v
  intro h1
  cases v with
  | pointer a => cases a <;> simp [okNil] at h1 ⊢
  | func f => cases f <;> simp [okNil] at h1 ⊢
  | _ => simp [okNil] at h1 ⊢

theorem Y_fa {s f k : Nat} {x : Operand} (ht : fOff P s f k = true) (h : fa k (opv N ρ x) K w Qm) :
    ∃ v, (∀ w', (execOp (opv N ρ) ⟨some d, .fieldAddr s x f, ty, pos, aft, g⟩).run P w' = .ok (.value v) w') ∧ K v w Qm := by
  obtain ⟨a, hx, hk⟩ := h
  refine ⟨_, fun w => ?_, hk⟩
  unfold fOff at ht
  split at ht
  · rename_i fs hu
    split at ht
    · rename_i fd hfd
      simp only [Bool.and_eq_true, beq_iff_eq] at ht
      obtain ⟨h1, h2⟩ := ht
      split at h2
      · rename_i i hi
        have hs : (sizeOf fd.type).run P w = .ok i.size w := by simp [sizeOf, typeInfo, hi]
        have h2' : ¬ i.size = 0 := by simpa using h2
        simp [execOp, hx, Instr.fieldAt, underlying, hu, hfd, Instr.sureAddr, fieldPlace, hs, h2', h1]
      · cases h2
    · cases ht
  · cases ht

theorem Y_fld {s f k : Nat} {x : Operand} {ft : TypeId} (ht : fOff P s f k = true) (hs : (match P.underlying s with | some (.struct fs) => (fs[f]?).map (·.type) | _ => none) = some ft) (hsc : isSc P ft = true)
    (h : fld k (opv N ρ x) K w Qm) :
    ∃ v, (∀ w', (execOp (opv N ρ) ⟨some d, .field s x f, ty, pos, aft, g⟩).run P w' = .ok (.value v) w') ∧ K v w Qm := by
  obtain ⟨cs, v, hx, hv, hk⟩ := h
  refine ⟨_, fun w => ?_, hk⟩
  unfold fOff at ht
  cases hu : P.underlying s with
  | none => simp [hu] at ht
  | some x' =>
    cases x' <;> simp [hu] at ht hs
    rename_i fs
    obtain ⟨fd, hfd, hft⟩ := hs
    simp [hfd] at ht
    simp [execOp, hx, Instr.field, underlying, hu, hfd, asAgg, part, hft, run_isAgg_sc hsc, ht.1, hv]

theorem Y_fldn {s f k n : Nat} {x : Operand} {ft : TypeId} (ht : fOff P s f k = true) (hs : (match P.underlying s with | some (.struct fs) => (fs[f]?).map (·.type) | _ => none) = some ft) (hsc : isAg P ft n = true)
    (h : fldn k n (opv N ρ x) K w Qm) :
    ∃ v, (∀ w', (execOp (opv N ρ) ⟨some d, .field s x f, ty, pos, aft, g⟩).run P w' = .ok (.value v) w') ∧ K v w Qm := by
  obtain ⟨cs, hx, hk⟩ := h
  refine ⟨_, fun w => ?_, hk⟩
  unfold fOff at ht
  cases hu : P.underlying s with
  | none => simp [hu] at ht
  | some x' =>
    cases x' <;> simp [hu] at ht hs
    rename_i fs
    obtain ⟨fd, hfd, hft⟩ := hs
    simp [hfd] at ht
    simp [execOp, hx, Instr.field, underlying, hu, hfd, asAgg, part, hft, run_isAgg_ag hsc, run_sizeOf_ag hsc, ht.1]

theorem Y_ad {k : IntKind} {t t2 : TypeId} {x y : Operand} (h : ad k (opv N ρ x) (opv N ρ y) K w Qm) :
    ∃ v, (∀ w', (execOp (opv N ρ) ⟨some d, .binOp .add t x y t2, ty, pos, aft, g⟩).run P w' = .ok (.value v) w') ∧ K v w Qm := by
  obtain ⟨a, b, hx, hy, hk⟩ := h
  exact ⟨_, (fun w => by simp [execOp, hx, hy, eqGuard, binOp, Op.intArith]), hk⟩

theorem Y_su {k : IntKind} {t t2 : TypeId} {x y : Operand} (h : su k (opv N ρ x) (opv N ρ y) K w Qm) :
    ∃ v, (∀ w', (execOp (opv N ρ) ⟨some d, .binOp .sub t x y t2, ty, pos, aft, g⟩).run P w' = .ok (.value v) w') ∧ K v w Qm := by
  obtain ⟨a, b, hx, hy, hk⟩ := h
  exact ⟨_, (fun w => by simp [execOp, hx, hy, eqGuard, binOp, Op.intArith]), hk⟩

theorem Y_mu {k : IntKind} {t t2 : TypeId} {x y : Operand} (h : mu k (opv N ρ x) (opv N ρ y) K w Qm) :
    ∃ v, (∀ w', (execOp (opv N ρ) ⟨some d, .binOp .mul t x y t2, ty, pos, aft, g⟩).run P w' = .ok (.value v) w') ∧ K v w Qm := by
  obtain ⟨a, b, hx, hy, hk⟩ := h
  exact ⟨_, (fun w => by simp [execOp, hx, hy, eqGuard, binOp, Op.intArith]), hk⟩

theorem Y_qu {k : IntKind} {t t2 : TypeId} {x y : Operand} (h : qu k (opv N ρ x) (opv N ρ y) K w Qm) :
    ∃ v, (∀ w', (execOp (opv N ρ) ⟨some d, .binOp .quo t x y t2, ty, pos, aft, g⟩).run P w' = .ok (.value v) w') ∧ K v w Qm := by
  obtain ⟨a, b, hx, hy, hb, hk⟩ := h
  exact ⟨_, (fun w => by simp [execOp, hx, hy, eqGuard, binOp, Op.intDiv, hb]), hk⟩

theorem Y_re {k : IntKind} {t t2 : TypeId} {x y : Operand} (h : re k (opv N ρ x) (opv N ρ y) K w Qm) :
    ∃ v, (∀ w', (execOp (opv N ρ) ⟨some d, .binOp .rem t x y t2, ty, pos, aft, g⟩).run P w' = .ok (.value v) w') ∧ K v w Qm := by
  obtain ⟨a, b, hx, hy, hb, hk⟩ := h
  exact ⟨_, (fun w => by simp [execOp, hx, hy, eqGuard, binOp, Op.intDiv, hb]), hk⟩

theorem Y_lt {k : IntKind} {t t2 : TypeId} {x y : Operand} (h : lt k (opv N ρ x) (opv N ρ y) K w Qm) :
    ∃ v, (∀ w', (execOp (opv N ρ) ⟨some d, .binOp .lss t x y t2, ty, pos, aft, g⟩).run P w' = .ok (.value v) w') ∧ K v w Qm := by
  obtain ⟨a, b, hx, hy, hk⟩ := h
  exact ⟨_, (fun w => by simp [execOp, hx, hy, eqGuard, binOp, Op.intCmp]), hk⟩

theorem Y_le {k : IntKind} {t t2 : TypeId} {x y : Operand} (h : le k (opv N ρ x) (opv N ρ y) K w Qm) :
    ∃ v, (∀ w', (execOp (opv N ρ) ⟨some d, .binOp .leq t x y t2, ty, pos, aft, g⟩).run P w' = .ok (.value v) w') ∧ K v w Qm := by
  obtain ⟨a, b, hx, hy, hk⟩ := h
  exact ⟨_, (fun w => by simp [execOp, hx, hy, eqGuard, binOp, Op.intCmp]), hk⟩

theorem Y_gt {k : IntKind} {t t2 : TypeId} {x y : Operand} (h : gt k (opv N ρ x) (opv N ρ y) K w Qm) :
    ∃ v, (∀ w', (execOp (opv N ρ) ⟨some d, .binOp .gtr t x y t2, ty, pos, aft, g⟩).run P w' = .ok (.value v) w') ∧ K v w Qm := by
  obtain ⟨a, b, hx, hy, hk⟩ := h
  exact ⟨_, (fun w => by simp [execOp, hx, hy, eqGuard, binOp, Op.intCmp, GT.gt]), hk⟩

theorem Y_ge {k : IntKind} {t t2 : TypeId} {x y : Operand} (h : ge k (opv N ρ x) (opv N ρ y) K w Qm) :
    ∃ v, (∀ w', (execOp (opv N ρ) ⟨some d, .binOp .geq t x y t2, ty, pos, aft, g⟩).run P w' = .ok (.value v) w') ∧ K v w Qm := by
  obtain ⟨a, b, hx, hy, hk⟩ := h
  exact ⟨_, (fun w => by simp [execOp, hx, hy, eqGuard, binOp, Op.intCmp, GE.ge]), hk⟩

theorem Y_eqi {k : IntKind} {t t2 : TypeId} {x y : Operand} (h : eqi k (opv N ρ x) (opv N ρ y) K w Qm) :
    ∃ v, (∀ w', (execOp (opv N ρ) ⟨some d, .binOp .eql t x y t2, ty, pos, aft, g⟩).run P w' = .ok (.value v) w') ∧ K v w Qm := by
  obtain ⟨a, b, hx, hy, hk⟩ := h
  refine ⟨_, fun w => ?_, hk⟩
  simp [execOp, hx, hy, eqGuard, binOp, Op.intCmp]
  rfl

theorem Y_nei {k : IntKind} {t t2 : TypeId} {x y : Operand} (h : nei k (opv N ρ x) (opv N ρ y) K w Qm) :
    ∃ v, (∀ w', (execOp (opv N ρ) ⟨some d, .binOp .neq t x y t2, ty, pos, aft, g⟩).run P w' = .ok (.value v) w') ∧ K v w Qm := by
  obtain ⟨a, b, hx, hy, hk⟩ := h
  refine ⟨_, fun w => ?_, hk⟩
  have e : (a != b) = decide (a ≠ b) := by by_cases h : a = b <;> simp [h]
  simp [execOp, hx, hy, eqGuard, binOp, Op.intCmp]
  rw [e]; simp

theorem Y_bits {k : IntKind} {op : BinOp} {t t2 : TypeId} {x y : Operand} (ho : (match op with | .and | .or | .xor | .andNot => true | _ => false) = true) (h : bws op k (opv N ρ x) (opv N ρ y) K w Qm) :
    ∃ v, (∀ w', (execOp (opv N ρ) ⟨some d, .binOp op t x y t2, ty, pos, aft, g⟩).run P w' = .ok (.value v) w') ∧ K v w Qm := by
  obtain ⟨a, b, v, hx, hy, hv, hk⟩ := h
  refine ⟨_, fun w => ?_, hk⟩
  have := hv P w
  cases op <;> simp at ho <;> simp [execOp, hx, hy, eqGuard, binOp, this]

theorem Y_shl {k j : IntKind} {t t2 : TypeId} {x y : Operand} (h : shl k j (opv N ρ x) (opv N ρ y) K w Qm) :
    ∃ v, (∀ w', (execOp (opv N ρ) ⟨some d, .binOp .shl t x y t2, ty, pos, aft, g⟩).run P w' = .ok (.value v) w') ∧ K v w Qm := by
  obtain ⟨a, b, hx, hy, hb, hk⟩ := h
  refine ⟨_, fun w => ?_, hk⟩
  simp [execOp, hx, hy, eqGuard, binOp, Op.shift, show ¬ b < 0 from by omega]

theorem Y_shr {k j : IntKind} {t t2 : TypeId} {x y : Operand} (h : shr k j (opv N ρ x) (opv N ρ y) K w Qm) :
    ∃ v, (∀ w', (execOp (opv N ρ) ⟨some d, .binOp .shr t x y t2, ty, pos, aft, g⟩).run P w' = .ok (.value v) w') ∧ K v w Qm := by
  obtain ⟨a, b, hx, hy, hb, hk⟩ := h
  refine ⟨_, fun w => ?_, hk⟩
  simp [execOp, hx, hy, eqGuard, binOp, Op.shift, show ¬ b < 0 from by omega]

theorem Y_cat {t t2 : TypeId} {x y : Operand} (h : cat (opv N ρ x) (opv N ρ y) K w Qm) :
    ∃ v, (∀ w', (execOp (opv N ρ) ⟨some d, .binOp .add t x y t2, ty, pos, aft, g⟩).run P w' = .ok (.value v) w') ∧ K v w Qm := by
  obtain ⟨a, b, hx, hy, hn, hk⟩ := h
  refine ⟨_, fun w => ?_, hk⟩
  have : ¬ (((a.size + b.size : Nat) : Int) > IntKind.i64.max) := by
    have e : IntKind.i64.max = 9223372036854775807 := by decide
    rw [e]; omega
  simp only [execOp, hx, hy, eqGuard, binOp, Op.stringOp, if_neg this]
  simp

theorem Y_eqs {t t2 : TypeId} {x y : Operand} (h : eqs (opv N ρ x) (opv N ρ y) K w Qm) :
    ∃ v, (∀ w', (execOp (opv N ρ) ⟨some d, .binOp .eql t x y t2, ty, pos, aft, g⟩).run P w' = .ok (.value v) w') ∧ K v w Qm := by
  obtain ⟨a, b, hx, hy, hk⟩ := h
  refine ⟨_, fun w => ?_, hk⟩
  simp only [execOp, hx, hy, eqGuard, binOp, Op.stringOp, toList_eq]
  simp

theorem Y_nes {t t2 : TypeId} {x y : Operand} (h : nes (opv N ρ x) (opv N ρ y) K w Qm) :
    ∃ v, (∀ w', (execOp (opv N ρ) ⟨some d, .binOp .neq t x y t2, ty, pos, aft, g⟩).run P w' = .ok (.value v) w') ∧ K v w Qm := by
  obtain ⟨a, b, hx, hy, hk⟩ := h
  refine ⟨_, fun w => ?_, hk⟩
  simp only [execOp, hx, hy, eqGuard, binOp, Op.stringOp, toList_eq]
  simp

theorem Y_lts {t t2 : TypeId} {x y : Operand} (h : lts (opv N ρ x) (opv N ρ y) K w Qm) :
    ∃ v, (∀ w', (execOp (opv N ρ) ⟨some d, .binOp .lss t x y t2, ty, pos, aft, g⟩).run P w' = .ok (.value v) w') ∧ K v w Qm := by
  obtain ⟨a, b, hx, hy, hk⟩ := h
  refine ⟨_, fun w => ?_, hk⟩
  simp only [execOp, hx, hy, eqGuard, binOp, Op.stringOp]
  simp

theorem Y_gts {t t2 : TypeId} {x y : Operand} (h : gts (opv N ρ x) (opv N ρ y) K w Qm) :
    ∃ v, (∀ w', (execOp (opv N ρ) ⟨some d, .binOp .gtr t x y t2, ty, pos, aft, g⟩).run P w' = .ok (.value v) w') ∧ K v w Qm := by
  obtain ⟨a, b, hx, hy, hk⟩ := h
  refine ⟨_, fun w => ?_, hk⟩
  simp only [execOp, hx, hy, eqGuard, binOp, Op.stringOp]
  simp

theorem Y_eqb {t t2 : TypeId} {x y : Operand} (ht : isBool P t = true) (h : eqb (opv N ρ x) (opv N ρ y) K w Qm) :
    ∃ v, (∀ w', (execOp (opv N ρ) ⟨some d, .binOp .eql t x y t2, ty, pos, aft, g⟩).run P w' = .ok (.value v) w') ∧ K v w Qm := by
  obtain ⟨a, b, hx, hy, hk⟩ := h
  refine ⟨_, fun w => ?_, hk⟩
  unfold isBool at ht
  cases hu : P.underlying t with
  | none => simp [hu] at ht
  | some u =>
    cases u <;> simp [hu] at ht
    have := equalIn_bool (w := w) hu 9999 a b
    have e : Op.equal t (.bool a) (.bool b) = Op.equalIn (9999 + 1) t (.bool a) (.bool b) := rfl
    simp [execOp, hx, hy, eqGuard, binOp, e, this]

theorem Y_neb {t t2 : TypeId} {x y : Operand} (ht : isBool P t = true) (h : neb (opv N ρ x) (opv N ρ y) K w Qm) :
    ∃ v, (∀ w', (execOp (opv N ρ) ⟨some d, .binOp .neq t x y t2, ty, pos, aft, g⟩).run P w' = .ok (.value v) w') ∧ K v w Qm := by
  obtain ⟨a, b, hx, hy, hk⟩ := h
  refine ⟨_, fun w => ?_, hk⟩
  unfold isBool at ht
  cases hu : P.underlying t with
  | none => simp [hu] at ht
  | some u =>
    cases u <;> simp [hu] at ht
    have := equalIn_bool (w := w) hu 9999 a b
    have e : Op.equal t (.bool a) (.bool b) = Op.equalIn (9999 + 1) t (.bool a) (.bool b) := rfl
    simp [execOp, hx, hy, eqGuard, binOp, e, this]

theorem Y_nt {t : TypeId} {x : Operand} (h : nt (opv N ρ x) K w Qm) :
    ∃ v, (∀ w', (execOp (opv N ρ) ⟨some d, .unOp .not t x, ty, pos, aft, g⟩).run P w' = .ok (.value v) w') ∧ K v w Qm := by
  obtain ⟨a, hx, hk⟩ := h
  exact ⟨_, (fun w => by simp [execOp, hx, Op.unary]), hk⟩

theorem Y_pk {x y z : Operand} (h : pk (opv N ρ x) (opv N ρ y) (opv N ρ z) K w Qm) :
    ∃ v, (∀ w', (execOp (opv N ρ) ⟨some d, .pick x y z, ty, pos, aft, g⟩).run P w' = .ok (.value v) w') ∧ K v w Qm := by
  obtain ⟨b, hx, hk⟩ := h
  refine ⟨_, fun w => ?_, hk⟩
  cases b <;> simp [execOp, hx, asBool]

theorem Y_cv {k : IntKind} {s t : TypeId} {x : Operand} (hs : (match P.underlying s with | some (.int _) => true | _ => false) = true) (ht : isInt P t k = true) (h : cv k (opv N ρ x) K w Qm) :
    ∃ v, (∀ w', (execOp (opv N ρ) ⟨some d, .convert s t x, ty, pos, aft, g⟩).run P w' = .ok (.value v) w') ∧ K v w Qm := by
  obtain ⟨j, a, hx, hk⟩ := h
  refine ⟨_, fun w => ?_, hk⟩
  unfold isInt at ht
  cases hu : P.underlying t with
  | none => simp [hu] at ht
  | some u =>
    cases u <;> simp [hu] at ht
    cases hv : P.underlying s with
    | none => simp [hv] at hs
    | some u' =>
      cases u' <;> simp [hv] at hs
      subst ht
      simp [execOp, hx, convert, underlying, hu, hv, Conv.intToInt]

theorem Y_ex {i : Nat} {x : Operand} (h : ex i (opv N ρ x) K w Qm) :
    ∃ v, (∀ w', (execOp (opv N ρ) ⟨some d, .extract x i, ty, pos, aft, g⟩).run P w' = .ok (.value v) w') ∧ K v w Qm := by
  obtain ⟨vs, v, hx, hv, hk⟩ := h
  exact ⟨_, (fun w => by simp [execOp, hx, Instr.extract, hv]), hk⟩

theorem Y_lnl {t : TypeId} {x : Operand} (ht : isSl P t = true) (h : lnl (opv N ρ x) K w Qm) :
    ∃ v, (∀ w', (execOp (opv N ρ) ⟨some d, .call ⟨.builtin .len, #[x], #[t]⟩, ty, pos, aft, g⟩).run P w' = .ok (.value v) w') ∧ K v w Qm := by
  obtain ⟨a, l, cp, hx, hk⟩ := h
  refine ⟨_, fun w => ?_, hk⟩
  unfold isSl at ht
  cases hu : P.underlying t with
  | none => simp [hu] at ht
  | some u =>
    cases u <;> simp [hu] at ht
    simp [execOp, hx, resolve, invoke, builtin, Builtin.len_, underlying, hu, goInt]

theorem Y_lns {t : TypeId} {x : Operand} (ht : isStr P t = true) (h : lns (opv N ρ x) K w Qm) :
    ∃ v, (∀ w', (execOp (opv N ρ) ⟨some d, .call ⟨.builtin .len, #[x], #[t]⟩, ty, pos, aft, g⟩).run P w' = .ok (.value v) w') ∧ K v w Qm := by
  obtain ⟨s, hx, hk⟩ := h
  refine ⟨_, fun w => ?_, hk⟩
  unfold isStr at ht
  cases hu : P.underlying t with
  | none => simp [hu] at ht
  | some u =>
    cases u <;> simp [hu] at ht
    simp [execOp, hx, resolve, invoke, builtin, Builtin.len_, underlying, hu, goInt]

theorem Y_mnm {t : TypeId} {x y : Operand} {ts : Array TypeId} (h : mnm (opv N ρ x) (opv N ρ y) K w Qm) :
    ∃ v, (∀ w', (execOp (opv N ρ) ⟨some d, .call ⟨.builtin .min, #[x, y], ts⟩, ty, pos, aft, g⟩).run P w' = .ok (.value v) w') ∧ K v w Qm := by
  obtain ⟨k, a, b, hx, hy, hk⟩ := h
  refine ⟨_, fun w => ?_, hk⟩
  simp [execOp, hx, hy, resolve, invoke, builtin, Builtin.min_, Builtin.min2]

theorem Y_mxm {t : TypeId} {x y : Operand} {ts : Array TypeId} (h : mxm (opv N ρ x) (opv N ρ y) K w Qm) :
    ∃ v, (∀ w', (execOp (opv N ρ) ⟨some d, .call ⟨.builtin .max, #[x, y], ts⟩, ty, pos, aft, g⟩).run P w' = .ok (.value v) w') ∧ K v w Qm := by
  obtain ⟨k, a, b, hx, hy, hk⟩ := h
  refine ⟨_, fun w => ?_, hk⟩
  simp [execOp, hx, hy, resolve, invoke, builtin, Builtin.max_, Builtin.max2]

theorem Y_ia {t : TypeId} {n : Nat} {x y : Operand} (ht : slE P t n = true) (h : ia n (opv N ρ x) (opv N ρ y) K w Qm) :
    ∃ v, (∀ w', (execOp (opv N ρ) ⟨some d, .indexAddr t x y, ty, pos, aft, g⟩).run P w' = .ok (.value v) w') ∧ K v w Qm := by
  obtain ⟨a, l, cp, k, j, hx, hy, h0, hl, hk⟩ := h
  refine ⟨_, fun w => ?_, hk⟩
  unfold slE at ht
  cases hu : P.underlying t with
  | none => simp [hu] at ht
  | some u =>
    cases u <;> simp [hu] at ht
    obtain ⟨i, hi, hs⟩ := ht
    simp [execOp, hx, hy, Instr.indexAt, asIntOf, underlying, hu, sizeOf, typeInfo, hi, hs, h0, hl]

theorem Y_iaa {t : TypeId} {len n : Nat} {x y : Operand} (ht : arE P t len n = true) (h : iaa len n (opv N ρ x) (opv N ρ y) K w Qm) :
    ∃ v, (∀ w', (execOp (opv N ρ) ⟨some d, .indexAddr t x y, ty, pos, aft, g⟩).run P w' = .ok (.value v) w') ∧ K v w Qm := by
  obtain ⟨a, k, j, hx, hy, h0, hl, hk⟩ := h
  refine ⟨_, fun w => ?_, hk⟩
  unfold arE at ht
  cases hu : P.underlying t with
  | none => simp [hu] at ht
  | some u =>
    cases u <;> simp [hu] at ht
    obtain ⟨h1, i, hi, hs⟩ := ht
    subst h1
    simp [execOp, hx, hy, Instr.indexAt, Instr.sureAddr, asIntOf, underlying, hu, sizeOf, typeInfo, hi, hs, h0, hl]

theorem Y_ixs {t : TypeId} {x y : Operand} (ht : isStr P t = true) (h : ixs (opv N ρ x) (opv N ρ y) K w Qm) :
    ∃ v, (∀ w', (execOp (opv N ρ) ⟨some d, .index t x y, ty, pos, aft, g⟩).run P w' = .ok (.value v) w') ∧ K v w Qm := by
  obtain ⟨s, k, j, b, hx, hy, h0, hb, hk⟩ := h
  refine ⟨_, fun w => ?_, hk⟩
  unfold isStr at ht
  cases hu : P.underlying t with
  | none => simp [hu] at ht
  | some u =>
    cases u <;> simp [hu] at ht
    simp [execOp, hx, hy, Instr.index, asIntOf, underlying, hu, h0, hb]

theorem Y_sls {t : TypeId} {x : Operand} {lo hi : Option Operand} (ht : isStr P t = true) (h : sls (opv N ρ x) (lo.map (opv N ρ)) (hi.map (opv N ρ)) K w Qm) :
    ∃ v, (∀ w', (execOp (opv N ρ) ⟨some d, .slice t x lo hi none, ty, pos, aft, g⟩).run P w' = .ok (.value v) w') ∧ K v w Qm := by
  obtain ⟨s, l, hh, hx, h1, h2, hk⟩ := h
  refine ⟨_, fun w => ?_, hk⟩
  unfold isStr at ht
  cases hu : P.underlying t with
  | none => simp [hu] at ht
  | some u =>
    cases u <;> simp [hu] at ht
    cases lo with
    | none =>
      simp only [Option.map_none] at h2
      have h2' : l = 0 := h2
      subst h2'
      cases hi with
      | none => have h1' : hh = s.size := h1; subst h1'; simp [execOp, hx, Instr.sliceAt, Instr.slice, underlying, hu, Instr.sliceBounds]
      | some y => have := run_bound (P := P) (w := w) (code := .sliceAlen) h1 rfl; simp [execOp, hx, Instr.sliceAt, Instr.slice, underlying, hu, Instr.sliceBounds, this]
    | some z =>
      have h2' := run_bound (P := P) (w := w) (code := .sliceB) h2 rfl
      cases hi with
      | none => have h1' : hh = s.size := h1; subst h1'; simp [execOp, hx, Instr.sliceAt, Instr.slice, underlying, hu, Instr.sliceBounds, h2']
      | some y => have := run_bound (P := P) (w := w) (code := .sliceAlen) h1 rfl; simp [execOp, hx, Instr.sliceAt, Instr.slice, underlying, hu, Instr.sliceBounds, this, h2']

theorem Y_sll {t : TypeId} {n : Nat} {x : Operand} {lo hi : Option Operand} (ht : slE P t n = true) (h : sll n (opv N ρ x) (lo.map (opv N ρ)) (hi.map (opv N ρ)) K w Qm) :
    ∃ v, (∀ w', (execOp (opv N ρ) ⟨some d, .slice t x lo hi none, ty, pos, aft, g⟩).run P w' = .ok (.value v) w') ∧ K v w Qm := by
  obtain ⟨a, len, cap, l, hh, hx, h1, h2, hk⟩ := h
  refine ⟨_, fun w => ?_, hk⟩
  unfold slE at ht
  cases hu : P.underlying t with
  | none => simp [hu] at ht
  | some u =>
    cases u <;> simp [hu] at ht
    obtain ⟨i, hi', hs⟩ := ht
    cases lo with
    | none =>
      have h2' : l = 0 := h2
      subst h2'
      cases hi with
      | none => have h1' : hh = len := h1; subst h1'; simp [execOp, hx, Instr.sliceAt, Instr.slice, underlying, hu, Instr.sliceBounds, sizeOf, typeInfo, hi', hs]
      | some y => have := run_bound (P := P) (w := w) (code := .sliceAcap) h1 rfl; simp [execOp, hx, Instr.sliceAt, Instr.slice, underlying, hu, Instr.sliceBounds, this, sizeOf, typeInfo, hi', hs]
    | some z =>
      have h2' := run_bound (P := P) (w := w) (code := .sliceB) h2 rfl
      cases hi with
      | none => have h1' : hh = len := h1; subst h1'; simp [execOp, hx, Instr.sliceAt, Instr.slice, underlying, hu, Instr.sliceBounds, h2', sizeOf, typeInfo, hi', hs]
      | some y => have := run_bound (P := P) (w := w) (code := .sliceAcap) h1 rfl; simp [execOp, hx, Instr.sliceAt, Instr.slice, underlying, hu, Instr.sliceBounds, this, h2', sizeOf, typeInfo, hi', hs]

theorem Y_sla {t : TypeId} {len n : Nat} {x : Operand} {lo hi : Option Operand} (ht : arE P t len n = true) (h : sla len n (opv N ρ x) (lo.map (opv N ρ)) (hi.map (opv N ρ)) K w Qm) :
    ∃ v, (∀ w', (execOp (opv N ρ) ⟨some d, .slice t x lo hi none, ty, pos, aft, g⟩).run P w' = .ok (.value v) w') ∧ K v w Qm := by
  obtain ⟨a, l, hh, hx, h1, h2, hk⟩ := h
  refine ⟨_, fun w => ?_, hk⟩
  unfold arE at ht
  cases hu : P.underlying t with
  | none => simp [hu] at ht
  | some u =>
    cases u <;> simp [hu] at ht
    obtain ⟨h3, i, hi', hs⟩ := ht
    subst h3
    cases lo with
    | none =>
      have h2' : l = 0 := h2
      subst h2'
      cases hi with
      | none => have h1' := h1; simp only [Option.map_none, bnd] at h1'; subst h1'; simp [execOp, hx, Instr.sliceAt, Instr.sureAddr, underlying, hu, Instr.sliceBounds, sizeOf, typeInfo, hi', hs]
      | some y => have := run_bound (P := P) (w := w) (code := .sliceAlen) h1 rfl; simp [execOp, hx, Instr.sliceAt, Instr.sureAddr, underlying, hu, Instr.sliceBounds, this, sizeOf, typeInfo, hi', hs]
    | some z =>
      have h2' := run_bound (P := P) (w := w) (code := .sliceB) h2 rfl
      cases hi with
      | none => have h1' := h1; simp only [Option.map_none, bnd] at h1'; subst h1'; simp [execOp, hx, Instr.sliceAt, Instr.sureAddr, underlying, hu, Instr.sliceBounds, h2', sizeOf, typeInfo, hi', hs]
      | some y => have := run_bound (P := P) (w := w) (code := .sliceAlen) h1 rfl; simp [execOp, hx, Instr.sliceAt, Instr.sureAddr, underlying, hu, Instr.sliceBounds, this, h2', sizeOf, typeInfo, hi', hs]

theorem Y_mif {t : TypeId} {x : Operand} (ht : isConc P t = true) (h : mif t (opv N ρ x) K w Qm) :
    ∃ v, (∀ w', (execOp (opv N ρ) ⟨some d, .makeInterface t x, ty, pos, aft, g⟩).run P w' = .ok (.value v) w') ∧ K v w Qm := by
  refine ⟨_, fun w => ?_, h⟩
  unfold isConc at ht
  cases hu : P.underlying t with
  | none => simp [hu] at ht
  | some u => cases u <;> simp [hu] at ht <;> simp [execOp, Instr.makeInterface, underlying, hu]

theorem Y_mf {fn : Fn} {first cap : Array Operand} (h : idv (.func fn (first.map (opv N ρ)) (cap.map (opv N ρ))) K w Qm) :
    ∃ v, (∀ w', (execOp (opv N ρ) ⟨some d, .makeFunc fn first cap, ty, pos, aft, g⟩).run P w' = .ok (.value v) w') ∧ K v w Qm :=
  ⟨_, (fun w => by simp [execOp, Instr.makeFunc]), h⟩

theorem Y_asrt {s t : TypeId} {x : Operand} (ht : isConc P t = true) (h : asrt t (opv N ρ x) K w Qm) :
    ∃ v, (∀ w', (execOp (opv N ρ) ⟨some d, .typeAssert x s t false, ty, pos, aft, g⟩).run P w' = .ok (.value v) w') ∧ K v w Qm := by
  obtain ⟨v, hx, hk⟩ := h
  refine ⟨_, fun w => ?_, hk⟩
  unfold isConc at ht
  cases hu : P.underlying t with
  | none => simp [hu] at ht
  | some u => cases u <;> simp [hu] at ht <;> simp [execOp, hx, Instr.typeAssert, underlying, hu]

def Kld (x v : Value) (w : World) : Prop := ∃ a, x = .pointer (some a) ∧ w.cell? a = some v
def Kldn (n : Nat) (x v : Value) (w : World) : Prop := ∃ a cs, x = .pointer (some a) ∧ cs.size = n ∧ rds w a cs ∧ v = .agg cs
theorem R_ld {t : TypeId} {x : Operand} (ht : isSc P t = true) (h : ld (opv N ρ x) K w Qm) :
    ∃ v, Kld (opv N ρ x) v w ∧ (∀ w', Kld (opv N ρ x) v w' → (execOp (opv N ρ) ⟨some d, .load t x, ty, pos, aft, g⟩).run P w' = .ok (.value v) w') ∧ K v w Qm := by
  obtain ⟨a, v, hx, hv, hk⟩ := h
  refine ⟨v, ⟨a, hx, hv⟩, fun w' hw => ?_, hk⟩
  obtain ⟨a', hx', hv'⟩ := hw
  rw [hx] at hx'; cases hx'
  simp [execOp, hx, Instr.loadAt, Instr.sureAddr, loadVar, run_isAgg_sc ht, hv']
theorem R_ldn {t : TypeId} {n : Nat} {x : Operand} (ht : isAg P t n = true) (h : ldn n (opv N ρ x) K w Qm) :
    ∃ v, Kldn n (opv N ρ x) v w ∧ (∀ w', Kldn n (opv N ρ x) v w' → (execOp (opv N ρ) ⟨some d, .load t x, ty, pos, aft, g⟩).run P w' = .ok (.value v) w') ∧ K v w Qm := by
  obtain ⟨a, cs, hx, hn, hv, hk⟩ := h
  refine ⟨.agg cs, ⟨a, cs, hx, hn, hv, rfl⟩, fun w' hw => ?_, hk⟩
  obtain ⟨a', cs', hx', hn', hv', e⟩ := hw
  rw [hx] at hx'; cases hx'; cases e
  have := run_loadCellsFrom_rds (P := P) hv' n 0 #[] (by omega)
  simp [execOp, hx, Instr.loadAt, Instr.sureAddr, loadVar, run_isAgg_ag ht, run_sizeOf_ag ht, loadCells, this]
/-- Whatever operation yields a value and leaves the world alone, told by its own run, in each world of which F holds. -/
def Ksm (P : Program) (s : Sem Value) (v : Value) (w : World) : Prop := s.run P w = .ok v w
def smr (P : Program) (s : Sem Value) (K : Value → M) : M := fun w Q => ∃ v, s.run P w = .ok v w ∧ K v w Q
theorem R_sm {op : Op} {s : Sem Value} (he : execOp (opv N ρ) ⟨some d, op, ty, pos, aft, g⟩ = (do pure (.value (← s)))) (h : smr P s K w Qm) :
    ∃ v, Ksm P s v w ∧ (∀ w', Ksm P s v w' → (execOp (opv N ρ) ⟨some d, op, ty, pos, aft, g⟩).run P w' = .ok (.value v) w') ∧ K v w Qm := by
  obtain ⟨v, hr, hk⟩ := h
  exact ⟨v, hr, fun w' hw => by rw [he]; simp [show s.run P w' = .ok v w' from hw], hk⟩
theorem P_smr {op : Op} {s : Sem Value} {next : Act → World → Prop} {Qx : Exit → Act → World → Prop} (he : execOp (opv N ρ) ⟨some d, op, ty, pos, aft, g⟩ = (do pure (.value (← s)))) (h : smr P s K w Qm) (c : ∀ v w', K v w' Qm → next (act N (upd ρ d v)) w') : Oper.wp P ⟨some d, op, ty, pos, aft, g⟩ (act N ρ) w next Qx := by
  obtain ⟨v, hr, hk⟩ := h
  exact wp_run (by rw [he]; simp [hr]) (c _ _ hk)
end
end Sh
end Go.Proofs.Ytlmiimojgledpaa

namespace Go.Proofs.Ytlmiimojgledpaa
namespace Sh
section
variable {P : Program} {N : Nat} {ρ : Nat → Value} {w : World} {d : Nat} {ty : TypeId} {pos : String} {aft : Array Edge} {g : Option (Nat × Bool)}
  {next : Act → World → Prop} {Qx : Exit → Act → World → Prop} {Qm : Value → World → Prop} {K : Value → M} {K0 : M}

theorem map_l (l : List Operand) : (l.toArray.map (opv N ρ)) = (l.map (opv N ρ)).toArray := by simp

theorem N_cc {fn : Func} {b : Code} {f : FuncId} {l : List Operand} {ts : Array TypeId} (hf : P.funcs[f]? = some fn) (hb : fn.body = some b) (hn : (fn.name == "runtime.NumGoroutine") = false)
    (h : cc P f (l.map (opv N ρ)).toArray K w Qm) (c : ∀ v w', K v w' Qm → next (act N (upd ρ d v)) w') : Oper.wp P ⟨some d, .call ⟨.value (.func f), l.toArray, ts⟩, ty, pos, aft, g⟩ (act N ρ) w next Qx :=
  P_cc hf hb hn (by rw [map_l]; exact h) c
theorem N_cl {fn : Func} {b : Code} {f : FuncId} {F : M} {l : List Operand} {ts : Array TypeId} (hf : P.funcs[f]? = some fn) (hb : fn.body = some b) (hn : (fn.name == "runtime.NumGoroutine") = false)
    (hs : ∀ w Q, F w Q → Calls P f (l.map (opv N ρ)).toArray w (Rt Q))
    (h : cl F K w Qm) (c : ∀ v w', K v w' Qm → next (act N (upd ρ d v)) w') : Oper.wp P ⟨some d, .call ⟨.value (.func f), l.toArray, ts⟩, ty, pos, aft, g⟩ (act N ρ) w next Qx :=
  P_cl hf hb hn (fun w Q hF => by rw [map_l]; exact hs w Q hF) h c
theorem N_ccn {fn : Func} {b : Code} {f : FuncId} {l : List Operand} {ts : Array TypeId} (hf : P.funcs[f]? = some fn) (hb : fn.body = some b) (hn : (fn.name == "runtime.NumGoroutine") = false)
    (h : cc P f (l.map (opv N ρ)).toArray (fun _ => K0) w Qm) (c : ∀ w', K0 w' Qm → next (act N ρ) w') : Oper.wp P ⟨none, .call ⟨.value (.func f), l.toArray, ts⟩, ty, pos, aft, g⟩ (act N ρ) w next Qx :=
  P_ccn hf hb hn (by rw [map_l]; exact h) c
theorem N_cln {fn : Func} {b : Code} {f : FuncId} {F : M} {l : List Operand} {ts : Array TypeId} (hf : P.funcs[f]? = some fn) (hb : fn.body = some b) (hn : (fn.name == "runtime.NumGoroutine") = false)
    (hs : ∀ w Q, F w Q → Calls P f (l.map (opv N ρ)).toArray w (Rt Q))
    (h : cl F (fun _ => K0) w Qm) (c : ∀ w', K0 w' Qm → next (act N ρ) w') : Oper.wp P ⟨none, .call ⟨.value (.func f), l.toArray, ts⟩, ty, pos, aft, g⟩ (act N ρ) w next Qx :=
  P_cln hf hb hn (fun w Q hF => by rw [map_l]; exact hs w Q hF) h c
theorem N_cf {x : Operand} {l : List Operand} {ts : Array TypeId} (h : cf P (opv N ρ x) (l.map (opv N ρ)).toArray K w Qm) (c : ∀ v w', K v w' Qm → next (act N (upd ρ d v)) w') : Oper.wp P ⟨some d, .call ⟨.value x, l.toArray, ts⟩, ty, pos, aft, g⟩ (act N ρ) w next Qx :=
  P_cf (by rw [map_l]; exact h) c
theorem N_ci {x : Operand} {m : String} {l : List Operand} {ts : Array TypeId} (h : ci P (opv N ρ x) m (l.map (opv N ρ)).toArray K w Qm) (c : ∀ v w', K v w' Qm → next (act N (upd ρ d v)) w') : Oper.wp P ⟨some d, .call ⟨.invoke x m, l.toArray, ts⟩, ty, pos, aft, g⟩ (act N ρ) w next Qx :=
  P_ci (by rw [map_l]; exact h) c
theorem N_cin {x : Operand} {m : String} {l : List Operand} {ts : Array TypeId} (h : ci P (opv N ρ x) m (l.map (opv N ρ)).toArray (fun _ => K0) w Qm) (c : ∀ w', K0 w' Qm → next (act N ρ) w') : Oper.wp P ⟨none, .call ⟨.invoke x m, l.toArray, ts⟩, ty, pos, aft, g⟩ (act N ρ) w next Qx :=
  P_cin (by rw [map_l]; exact h) c
theorem N_mf {fn : Fn} {l1 l2 : List Operand} (h : idv (.func fn (l1.map (opv N ρ)).toArray (l2.map (opv N ρ)).toArray) K w Qm) (c : ∀ v w', K v w' Qm → next (act N (upd ρ d v)) w') : Oper.wp P ⟨some d, .makeFunc fn l1.toArray l2.toArray, ty, pos, aft, g⟩ (act N ρ) w next Qx :=
  P_mf (by rw [map_l, map_l]; exact h) c
theorem Y_nmf {fn : Fn} {l1 l2 : List Operand} (h : idv (.func fn (l1.map (opv N ρ)).toArray (l2.map (opv N ρ)).toArray) K w Qm) :
    ∃ v, (∀ w', (execOp (opv N ρ) ⟨some d, .makeFunc fn l1.toArray l2.toArray, ty, pos, aft, g⟩).run P w' = .ok (.value v) w') ∧ K v w Qm :=
  Y_mf (by rw [map_l, map_l]; exact h)
theorem map_p (l : List (Nat × Operand)) : (l.toArray.map fun (i, x) => (i, opv N ρ x)) = (l.map fun p => (p.1, opv N ρ p.2)).toArray := by simp
theorem N_bld {t : TypeId} {l : List (Nat × Operand)} (h : smr P (Instr.build t (l.map fun p => (p.1, opv N ρ p.2)).toArray) K w Qm) (c : ∀ v w', K v w' Qm → next (act N (upd ρ d v)) w') : Oper.wp P ⟨some d, .build t l.toArray, ty, pos, aft, g⟩ (act N ρ) w next Qx :=
  P_smr (by simp only [execOp]; rw [map_p]) h c
theorem R_bld {t : TypeId} {l : List (Nat × Operand)} (h : smr P (Instr.build t (l.map fun p => (p.1, opv N ρ p.2)).toArray) K w Qm) :
    ∃ v, Ksm P (Instr.build t (l.map fun p => (p.1, opv N ρ p.2)).toArray) v w ∧ (∀ w', Ksm P (Instr.build t (l.map fun p => (p.1, opv N ρ p.2)).toArray) v w' → (execOp (opv N ρ) ⟨some d, .build t l.toArray, ty, pos, aft, g⟩).run P w' = .ok (.value v) w') ∧ K v w Qm :=
  R_sm (by simp only [execOp]; rw [map_p]) h
theorem N_bsl {t : TypeId} {n : Nat} {l : List (Nat × Operand)} (h : sm P (Instr.buildSlice t n (l.map fun p => (p.1, opv N ρ p.2)).toArray) K w Qm) (c : ∀ v w', K v w' Qm → next (act N (upd ρ d v)) w') : Oper.wp P ⟨some d, .buildSlice t n l.toArray, ty, pos, aft, g⟩ (act N ρ) w next Qx :=
  P_sm (by simp only [execOp]; rw [map_p]) h c
theorem exec_bi {dst : Option Tmp} {b : Builtin} {l : List Operand} {ts : Array TypeId} : execOp (opv N ρ) ⟨dst, .call ⟨.builtin b, l.toArray, ts⟩, ty, pos, aft, g⟩ = builtin b ts ty (l.toArray.map fun | .const _ => true | _ => false) (l.map (opv N ρ)).toArray := by
  simp [execOp, resolve, invoke]
  rfl
theorem N_bi {b : Builtin} {l : List Operand} {ts : Array TypeId} {s : Sem Value} (he : builtin b ts ty (l.toArray.map fun | .const _ => true | _ => false) (l.map (opv N ρ)).toArray = (do pure (.value (← s))))
    (h : sm P s K w Qm) (c : ∀ v w', K v w' Qm → next (act N (upd ρ d v)) w') : Oper.wp P ⟨some d, .call ⟨.builtin b, l.toArray, ts⟩, ty, pos, aft, g⟩ (act N ρ) w next Qx :=
  P_sm (by rw [exec_bi, he]) h c
theorem N_bin {b : Builtin} {l : List Operand} {ts : Array TypeId} {s : Sem Value} (he : builtin b ts ty (l.toArray.map fun | .const _ => true | _ => false) (l.map (opv N ρ)).toArray = (do pure (.value (← s))))
    (h : sm P s (fun _ => K0) w Qm) (c : ∀ w', K0 w' Qm → next (act N ρ) w') : Oper.wp P ⟨none, .call ⟨.builtin b, l.toArray, ts⟩, ty, pos, aft, g⟩ (act N ρ) w next Qx :=
  P_smn (by rw [exec_bi, he]) h c

/-! joins and loops -/
def jn {α : Type} (F : α → M) (k : α) : M := F k
def itr {α : Type} (b : α) (F : α → α) : Nat → α
  | 0 => b
  | n + 1 => F (itr b F n)
def lo {α : Type} (b : α) (F : α → α) (ap0 : α → M) : M := fun w Q => ∃ n, ap0 (itr b F n) w Q
theorem C_join {α : Type} {c : Code} (ap : α → (Nat → Value) → M) {F : α → M} {k : α} (h : jn F k w Qm)
    (hb : ∀ k', (∀ ρ w, ap k' ρ w Qm → Qx .normal (act N ρ) w) → F k' w Qm → c.wp P Qx (act N ρ) w)
    (hj : ∀ ρ w, ap k ρ w Qm → Qx .normal (act N ρ) w) : c.wp P Qx (act N ρ) w := hb k hj h
theorem C_blk {id : Nat} {c : Code} {a : Act} (h : c.wp P (Exit.inBlock id Qx) a w) : (Code.block id c).wp P Qx a w := wp_block h
theorem C_lo {α : Type} {c : Code} (ap : α → (Nat → Value) → M) {b : α} {F : α → α} (h : lo b F (fun l => ap l ρ) w Qm)
    (hbot : ∀ ρ w, ap b ρ w Qm → False)
    (round : ∀ (next : Act → World → Prop) (self : α), (∀ ρ w, ap self ρ w Qm → next (act N ρ) w) → ∀ ρ w, ap (F self) ρ w Qm → c.wp P (Exit.then next Qx) (act N ρ) w) :
    (Code.loop c).wp P Qx (act N ρ) w := by
  obtain ⟨n, h⟩ := h
  refine C_loop (fun n a w => ∃ ρ, a = act N ρ ∧ ap (itr b F n) ρ w Qm) (n := n) ⟨ρ, rfl, h⟩ ?_
  rintro n _ w ⟨ρ, rfl, h⟩
  cases n with
  | zero => exact (hbot _ _ h).elim
  | succ n => exact round _ (itr b F n) (fun ρ' w' h' => ⟨n, Nat.lt_succ_self n, ρ', rfl, h'⟩) ρ w h
theorem E_n {nx : Act → World → Prop} {a : Act} (h : nx a w) : Exit.then nx Qx .normal a w := h
theorem E_x {nx : Act → World → Prop} {a : Act} {id : Nat} (h : Qx (.exit id) a w) : Exit.then nx Qx (.exit id) a w := h
theorem E_r {nx : Act → World → Prop} {a : Act} (h : Qx .ret a w) : Exit.then nx Qx .ret a w := h
theorem B_n {a : Act} {id : Nat} (h : Qx .normal a w) : Exit.inBlock id Qx .normal a w := h
theorem B_r {a : Act} {id : Nat} (h : Qx .ret a w) : Exit.inBlock id Qx .ret a w := h
theorem B_x {a : Act} {id : Nat} (h : Qx .normal a w) : Exit.inBlock id Qx (.exit id) a w := by simp only [Exit.inBlock, if_true]; exact h
theorem B_o {a : Act} {id id' : Nat} (hn : Nat.beq id' id = false) (h : Qx (.exit id') a w) : Exit.inBlock id Qx (.exit id') a w := by
  have : ¬ id' = id := fun e => by rw [e] at hn; simp at hn
  simp only [Exit.inBlock, if_neg this]; exact h
end
end Sh
end Go.Proofs.Ytlmiimojgledpaa

namespace Go.Proofs.Ytlmiimojgledpaa
namespace Sh
theorem kp_1 {F : World → Prop} {X : M} {w : World} {Q : Value → World → Prop} (h : kp F X w Q) : F w := h.1
theorem kp_2 {F : World → Prop} {X : M} {w : World} {Q : Value → World → Prop} (h : kp F X w Q) : X w Q := h.2
theorem amb_1 {X Y : M} {w : World} {Q : Value → World → Prop} (h : amb X Y w Q) : X w Q := h.1
theorem amb_2 {X Y : M} {w : World} {Q : Value → World → Prop} (h : amb X Y w Q) : Y w Q := h.2
def dr (X : M) : M := fun w Q => X (drw w) Q
theorem dr_e {X : M} {w : World} {Q : Value → World → Prop} (h : dr X w Q) : X (drw w) Q := h
section
variable {P : Program} {N : Nat} {ρ : Nat → Value} {w : World} {Qm : Value → World → Prop} {K : Value → M}
def rvO (ρ : Nat → Value) (N : Nat) : ResultVar → Sem Value
  | .tmp t => pure (opv N ρ (.tmp t))
  | .cell a t => do loadVar t (← asAddr (opv N ρ (.tmp a)))
def oneOr : List Value → Value
  | [v] => v
  | vs => .tuple vs.toArray
def RS (P : Program) (N : Nat) (ρ : Nat → Value) (w : World) : List ResultVar → List Value → Prop
  | [], [] => True
  | r :: rs, v :: vs => (rvO ρ N r).run P w = .ok v w ∧ RS P N ρ w rs vs
  | _, _ => False
theorem rv_tmp {t : Nat} : (rvO ρ N (.tmp t)).run P w = .ok (opv N ρ (.tmp t)) w := rfl
theorem rv_ldn {t : TypeId} {n a : Nat} (ht : isAg P t n = true) (h : ldn n (opv N ρ (.tmp a)) K w Qm) : ∃ v, (rvO ρ N (.cell a t)).run P w = .ok v w ∧ K v w Qm := by
  obtain ⟨b, cs, hx, hn, hv, hk⟩ := h
  refine ⟨_, ?_, hk⟩
  have := run_loadCellsFrom_rds (P := P) hv n 0 #[] (by omega)
  simp [rvO, hx, asAddr, loadVar, run_isAgg_ag ht, run_sizeOf_ag ht, loadCells, this]
theorem rv_ld {t : TypeId} {a : Nat} (ht : isSc P t = true) (h : ld (opv N ρ (.tmp a)) K w Qm) : ∃ v, (rvO ρ N (.cell a t)).run P w = .ok v w ∧ K v w Qm := by
  obtain ⟨b, v, hx, hv, hk⟩ := h
  refine ⟨v, ?_, hk⟩
  simp [rvO, hx, asAddr, loadVar, run_isAgg_sc ht, hv]
theorem post_gen {fn : Func} {rs : List ResultVar} {vs : List Value} {e : Exit} (he : e = .normal ∨ e = .ret) (hr : fn.results = rs.toArray) (hs : RS P N ρ w rs vs)
    (h : Qm (oneOr vs) w) : bodyPost P fn (Rt Qm) e (act N ρ) w := by
  have hv : (results fn (act N ρ).tmps).run P w = .ok (oneOr vs) w := by
    obtain ⟨nm, og, tg, ps, rts, nf, nt, rs', bd, nr, ou, fi, el, ln, mt, tn⟩ := fn
    simp only at hr
    subst hr
    have h1 : results ⟨nm, og, tg, ps, rts, nf, nt, rs.toArray, bd, nr, ou, fi, el, ln, mt, tn⟩ (act N ρ).tmps = (do
      let vs ← rs.toArray.mapM (rvOf (act N ρ).tmps)
      pure (if h : vs.size = 1 then vs[0] else .tuple vs)) := rfl
    have h0 : rvOf (act N ρ).tmps = rvO ρ N := by
      funext r
      cases r with
      | tmp t => simp only [rvOf, rvO, tmps_act, opv]
      | cell a t => simp only [rvOf, rvO, tmps_act, opv]
    have hm : ∀ (rs : List ResultVar) (vs : List Value), RS P N ρ w rs vs → (rs.mapM (rvO ρ N)).run P w = .ok vs w := by
      intro rs
      induction rs with
      | nil => intro vs h; cases vs with
        | nil => rfl
        | cons v vs => exact h.elim
      | cons r rs ih => intro vs h; cases vs with
        | nil => exact h.elim
        | cons v vs => simp only [List.mapM_cons, Sem.run_bind, h.1, Result.andThen_ok, ih vs h.2, Sem.run_pure]
    rw [h1, h0, List.mapM_toArray]
    simp only [map_eq_pure_bind, bind_assoc, pure_bind, Sem.run_bind, hm rs vs hs, Result.andThen_ok, Sem.run_pure]
    match vs with
    | [] => rfl
    | [v] => rfl
    | a :: b :: r => rfl
  rcases he with rfl | rfl
  · exact ⟨rfl, _, hv, h⟩
  · exact ⟨rfl, _, hv, h⟩
theorem post_res {fn : Func} (rs : List ResultVar) {e : Exit} (he : e = .normal ∨ e = .ret) (hr : fn.results = rs.toArray) (h : ∃ vs, RS P N ρ w rs vs ∧ Qm (oneOr vs) w) : bodyPost P fn (Rt Qm) e (act N ρ) w := by
  obtain ⟨vs, hs, h⟩ := h
  exact post_gen he hr hs h
theorem res_ldn {rs : List ResultVar} (a : Nat) (t : TypeId) {n : Nat} (ht : isAg P t n = true) (h : ldn n (opv N ρ (.tmp a)) K w Qm)
    (c : ∀ v, (rvO ρ N (.cell a t)).run P w = .ok v w → K v w Qm → ∃ vs, RS P N ρ w rs vs ∧ Qm (oneOr vs) w) : ∃ vs, RS P N ρ w rs vs ∧ Qm (oneOr vs) w := by
  obtain ⟨v, hv, hk⟩ := rv_ldn ht h
  exact c v hv hk
theorem res_ld {rs : List ResultVar} (a : Nat) (t : TypeId) (ht : isSc P t = true) (h : ld (opv N ρ (.tmp a)) K w Qm)
    (c : ∀ v, (rvO ρ N (.cell a t)).run P w = .ok v w → K v w Qm → ∃ vs, RS P N ρ w rs vs ∧ Qm (oneOr vs) w) : ∃ vs, RS P N ρ w rs vs ∧ Qm (oneOr vs) w := by
  obtain ⟨v, hv, hk⟩ := rv_ld ht h
  exact c v hv hk
end
end Sh
end Go.Proofs.Ytlmiimojgledpaa

namespace Go.Proofs.Ytlmiimojgledpaa
namespace Sh
section
variable {w : World} {Q : Value → World → Prop} {K : Value → M} {K0 A B : M} {k j : IntKind} {a b : Int} {x y v : Value}
theorem ad_e : ad k (.int k a) (.int k b) K w Q = K (.int k (k.wrap (a + b))) w Q := by simp [ad]
theorem su_e : su k (.int k a) (.int k b) K w Q = K (.int k (k.wrap (a - b))) w Q := by simp [su]
theorem mu_e : mu k (.int k a) (.int k b) K w Q = K (.int k (k.wrap (a * b))) w Q := by simp [mu]
theorem qu_e : qu k (.int k a) (.int k b) K w Q = (b ≠ 0 ∧ K (.int k (k.wrap (a.tdiv b))) w Q) := by simp [qu]
theorem re_e : re k (.int k a) (.int k b) K w Q = (b ≠ 0 ∧ K (.int k (a.tmod b)) w Q) := by simp [re]
theorem lt_e : lt k (.int k a) (.int k b) K w Q = K (.bool (decide (a < b))) w Q := by simp [lt]
theorem le_e : le k (.int k a) (.int k b) K w Q = K (.bool (decide (a ≤ b))) w Q := by simp [le]
theorem gt_e : gt k (.int k a) (.int k b) K w Q = K (.bool (decide (b < a))) w Q := by simp [gt]
theorem ge_e : ge k (.int k a) (.int k b) K w Q = K (.bool (decide (b ≤ a))) w Q := by simp [ge]
theorem eqi_e : eqi k (.int k a) (.int k b) K w Q = K (.bool (decide (a = b))) w Q := by simp [eqi]
theorem nei_e : nei k (.int k a) (.int k b) K w Q = K (.bool (decide (a ≠ b))) w Q := by simp [nei]
theorem shl_e : shl k j (.int k a) (.int j b) K w Q = (0 ≤ b ∧ K (.int k (k.wrap (a * 2 ^ (min b.toNat k.bits)))) w Q) := by simp [shl]
theorem shr_e : shr k j (.int k a) (.int j b) K w Q = (0 ≤ b ∧ K (.int k (a.fdiv (2 ^ (min b.toNat k.bits)))) w Q) := by simp [shr]
theorem cv_e : cv k (.int j a) K w Q = K (.int k (k.wrap a)) w Q := by
  unfold cv; apply propext; constructor
  · rintro ⟨k', a', h1, h⟩; cases h1; exact h
  · exact fun h => ⟨_, _, rfl, h⟩
theorem nt_e {t : Bool} : nt (.bool t) K w Q = K (.bool !t) w Q := by simp [nt]
theorem pk_e {t : Bool} : pk (.bool t) x y K w Q = K (bif t then x else y) w Q := by simp [pk]
theorem eqb_e {t u : Bool} : eqb (.bool t) (.bool u) K w Q = K (.bool (t == u)) w Q := by simp [eqb]
theorem neb_e {t u : Bool} : neb (.bool t) (.bool u) K w Q = K (.bool !(t == u)) w Q := by simp [neb]
theorem cat_e {s t : ByteArray} : cat (.string s) (.string t) K w Q = (s.size + t.size ≤ 9223372036854775807 ∧ K (.string (s ++ t)) w Q) := by simp [cat]
theorem eqs_e {s t : ByteArray} : eqs (.string s) (.string t) K w Q = K (.bool (decide (s = t))) w Q := by simp [eqs]
theorem nes_e {s t : ByteArray} : nes (.string s) (.string t) K w Q = K (.bool (decide (s ≠ t))) w Q := by simp [nes]
theorem lts_e {s t : ByteArray} : lts (.string s) (.string t) K w Q = K (.bool (Op.bytesLess s.toList t.toList)) w Q := by simp [lts]
theorem gts_e {s t : ByteArray} : gts (.string s) (.string t) K w Q = K (.bool !(Op.bytesLess s.toList t.toList || s.toList == t.toList)) w Q := by simp [gts]
theorem nc_e {p : Addr} : nc (.pointer (some p)) K w Q = K (.pointer (some p)) w Q := by simp [nc, okNil]
theorem fa_e {p : Addr} {n : Nat} : fa n (.pointer (some p)) K w Q = K (.pointer (some (p.add n))) w Q := by simp [fa]
theorem ld_e {p : Addr} : ld (.pointer (some p)) K w Q = ∃ v, w.cell? p = some v ∧ K v w Q := by simp [ld]
theorem ldn_e {p : Addr} {n : Nat} : ldn n (.pointer (some p)) K w Q = ∃ cs, cs.size = n ∧ rds w p cs ∧ K (.agg cs) w Q := by simp [ldn]
theorem st_e {p : Addr} : st (.pointer (some p)) v K0 w Q = ((w.cell? p).isSome = true ∧ w.frozen? p = false ∧ v.oneCell' = true ∧ K0 (w.setCell p v) Q) := by simp [st]
theorem al_e {t : TypeId} {cs : Array Value} : al t cs K w Q = K (.pointer (some ⟨w.heap.size, 0, none⟩)) (psh w (.cells cs t)) Q := rfl
theorem bx_e {t : TypeId} : bx t v K w Q = K (.pointer (some ⟨w.heap.size, 0, none⟩)) (psh w (.cells v.cells t)) Q := rfl
theorem ex_e {i : Nat} {vs : Array Value} : ex i (.tuple vs) K w Q = ∃ v, vs[i]? = some v ∧ K v w Q := by simp [ex]
theorem lnl_e {p : Option Addr} {l c : Nat} : lnl (.slice p l c) K w Q = K (.int .i64 l) w Q := by
  unfold lnl; apply propext; constructor
  · rintro ⟨p', l', c', h1, h⟩; cases h1; exact h
  · exact fun h => ⟨_, _, _, rfl, h⟩
theorem lns_e {s : ByteArray} : lns (.string s) K w Q = K (.int .i64 s.size) w Q := by simp [lns]
theorem ia_e {p : Addr} {n l c : Nat} : ia n (.slice (some p) l c) (.int k a) K w Q = (0 ≤ a ∧ a < l ∧ K (.pointer (some (p.add (a.toNat * n)))) w Q) := by
  unfold ia; apply propext; constructor
  · rintro ⟨p', l', c', k', j', h1, h2, h⟩; cases h1; cases h2; exact h
  · exact fun h => ⟨_, _, _, _, _, rfl, rfl, h⟩
theorem iaa_e {p : Addr} {n l : Nat} : iaa l n (.pointer (some p)) (.int k a) K w Q = (0 ≤ a ∧ a < l ∧ K (.pointer (some (p.add (a.toNat * n)))) w Q) := by
  unfold iaa; apply propext; constructor
  · rintro ⟨p', k', j', h1, h2, h⟩; cases h1; cases h2; exact h
  · exact fun h => ⟨_, _, _, rfl, rfl, h⟩
theorem ixs_e {s : ByteArray} : ixs (.string s) (.int k a) K w Q = (0 ≤ a ∧ ∃ c, s[a.toNat]? = some c ∧ K (.int .u8 (c.toNat : Int)) w Q) := by
  unfold ixs; apply propext; constructor
  · rintro ⟨s', k', j', c', h1, h2, h3, h4, h⟩; cases h1; cases h2; exact ⟨h3, c', h4, h⟩
  · exact fun h => ⟨_, _, _, h.2.choose, rfl, rfl, h.1, h.2.choose_spec⟩
theorem mif_e {t : TypeId} : mif t v K w Q = K (.iface t v) w Q := rfl
theorem mnm_e : mnm (.int k a) (.int k b) K w Q = K (.int k (if b < a then b else a)) w Q := by
  unfold mnm; apply propext; constructor
  · rintro ⟨k', a', b', h1, h2, h⟩; cases h1; cases h2; exact h
  · exact fun h => ⟨_, _, _, rfl, rfl, h⟩
theorem mxm_e : mxm (.int k a) (.int k b) K w Q = K (.int k (if a < b then b else a)) w Q := by
  unfold mxm; apply propext; constructor
  · rintro ⟨k', a', b', h1, h2, h⟩; cases h1; cases h2; exact h
  · exact fun h => ⟨_, _, _, rfl, rfl, h⟩
theorem mm_e : mm K w Q = K (.map (some w.heap.size)) (psh w (.map #[] 0)) Q := rfl
theorem asrt_e {t : TypeId} : asrt t (.iface t v) K w Q = K v w Q := by simp [asrt]
theorem idv_e : idv v K w Q = K v w Q := rfl
theorem cl_e {f : M} : cl f K w Q = f w (fun v w' => K v w' Q) := rfl
theorem cnd_e {t : Bool} : cnd (.bool t) A B w Q = (if t = true then A w Q else B w Q) := by cases t <;> simp [cnd]
theorem gd_e {t u : Bool} {A : (Value → M) → M} : gd (.bool t) u A K w Q = (if t = u then A K w Q else K undef w Q) := by
  cases t <;> cases u <;> simp [gd, gdB]
theorem gd_u {u : Bool} {A : (Value → M) → M} {K : Value → M} {w Q} : gd undef u A K w Q = K undef w Q := rfl
theorem gdu_e {t u : Bool} {A : M → M} : gdu (.bool t) u A K0 w Q = (if t = u then A K0 w Q else K0 w Q) := by
  cases t <;> cases u <;> simp [gdu, gdB]
theorem rt_e : rt v w Q = Q v w := rfl
theorem jn_e {α : Type} {F : α → M} {c : α} : jn F c w Q = F c w Q := rfl
theorem dr_q {X : M} : dr X w Q = X (drw w) Q := rfl
theorem kp_e {F : World → Prop} {X : M} : kp F X w Q = (F w ∧ X w Q) := rfl
theorem smr_e {P : Program} {s : Sem Value} : smr P s K w Q = ∃ v, s.run P w = .ok v w ∧ K v w Q := rfl
theorem sm_e {P : Program} {s : Sem Value} : sm P s K w Q = ∃ v w', s.run P w = .ok v w' ∧ K v w' Q := rfl
theorem amb_e {X Y : M} : amb X Y w Q = (X w Q ∧ Y w Q) := rfl
theorem Kld_e {p : Addr} : Kld (.pointer (some p)) v w = (w.cell? p = some v) := by simp [Kld]
theorem Ksm_e {P : Program} {s : Sem Value} : Ksm P s v w = (s.run P w = .ok v w) := rfl
theorem Kldn_e {p : Addr} {n : Nat} {cs : Array Value} : Kldn n (.pointer (some p)) (.agg cs) w = (cs.size = n ∧ rds w p cs) := by
  unfold Kldn; apply propext; constructor
  · rintro ⟨p', cs', h1, h2, h3, h4⟩; cases h1; cases h4; exact ⟨h2, h3⟩
  · exact fun h => ⟨_, _, rfl, h.1, h.2, rfl⟩
theorem pk_t : pk (.bool true) x y K w Q = K x w Q := by simp [pk]
theorem pk_f : pk (.bool false) x y K w Q = K y w Q := by simp [pk]
theorem get4_0 {a b c d : Value} : (#[a, b, c, d] : Array Value)[0]? = some a := rfl
theorem get4_1 {a b c d : Value} : (#[a, b, c, d] : Array Value)[1]? = some b := rfl
theorem get4_2 {a b c d : Value} : (#[a, b, c, d] : Array Value)[2]? = some c := rfl
theorem get4_3 {a b c d : Value} : (#[a, b, c, d] : Array Value)[3]? = some d := rfl
theorem get3_0 {a b c : Value} : (#[a, b, c] : Array Value)[0]? = some a := rfl
theorem get3_1 {a b c : Value} : (#[a, b, c] : Array Value)[1]? = some b := rfl
theorem get3_2 {a b c : Value} : (#[a, b, c] : Array Value)[2]? = some c := rfl
theorem get2_0 {a b : Value} : (#[a, b] : Array Value)[0]? = some a := rfl
theorem get2_1 {a b : Value} : (#[a, b] : Array Value)[1]? = some b := rfl
theorem get1_0 {a : Value} : (#[a] : Array Value)[0]? = some a := rfl
end

/-! memory -/
section
variable {w : World} {o : Obj} {b n : Nat}
theorem size_psh : (psh w o).heap.size = w.heap.size + 1 := by simp [psh]
theorem size_drw : (drw w).heap.size = w.heap.size := rfl
theorem size_setCell {p : Addr} {v : Value} : (w.setCell p v).heap.size = w.heap.size := by simp [World.setCell]
theorem blk_psh_new : (psh w o).heap[w.heap.size]? = some o := by
  show (w.heap.push o)[w.heap.size]? = some o
  simp
theorem blk_psh_old (h : b < w.heap.size) : (psh w o).heap[b]? = w.heap[b]? := by
  simp only [psh, Array.getElem?_push]; rw [if_neg (by omega)]
theorem blk_drw : (drw w).heap[b]? = w.heap[b]? := rfl
theorem cell_of_blk {c : Array Value} {t : TypeId} {fr : Nat × Nat} (h : w.heap[b]? = some (.cells c t fr)) : w.cell? ⟨b, n, none⟩ = c[n]? := by
  simp [World.cell?, h]
theorem cell_psh_new {c : Array Value} {t : TypeId} : (psh w (.cells c t)).cell? ⟨w.heap.size, n, none⟩ = c[n]? := cell_of_blk blk_psh_new
theorem cell_psh_old {p : Addr} (h : p.block < w.heap.size) : (psh w o).cell? p = w.cell? p := by
  unfold World.cell?; rw [blk_psh_old h]
theorem cell_drw {p : Addr} : (drw w).cell? p = w.cell? p := rfl
theorem add_lit {m : Nat} : (⟨b, m, none⟩ : Addr).add n = ⟨b, m + n, none⟩ := by
  unfold Addr.add; by_cases h : n = 0
  · simp [h]
  · simp [h]
theorem rds_of_blk {c cs : Array Value} {t : TypeId} {fr : Nat × Nat} {m : Nat} (h : w.heap[b]? = some (.cells c t fr)) (hc : ∀ j v, cs[j]? = some v → c[m + j]? = some v) : rds w ⟨b, m, none⟩ cs := by
  intro j v hj
  rw [add_lit, cell_of_blk h]
  exact hc j v hj
/-- Below what was there the new world is as the old one. -/
theorem Below_psh {B : Nat} {a : World} (h : RowKit.Below B a w) (hB : B ≤ w.heap.size) : RowKit.Below B a (psh w o) :=
  h.trans ⟨rfl, rfl, rfl, by simp [psh], fun k hk => blk_psh_old (by omega)⟩
theorem Below_drw {B : Nat} {a : World} (h : RowKit.Below B a w) : RowKit.Below B a (drw w) := ⟨h.os, h.tape, h.output, h.size, h.block⟩
end
/-- the steps, all in one -/
theorem LL : type_of% (And.intro @bx_e (And.intro @al_e (And.intro @fa_e (And.intro @ld_e (And.intro @ad_e (And.intro @su_e (And.intro @mu_e (And.intro @lt_e (And.intro @le_e (And.intro @gt_e (And.intro @ge_e (And.intro @eqi_e (And.intro @nei_e (And.intro @qu_e (And.intro @re_e (And.intro @cv_e (And.intro @nt_e (And.intro @pk_t (And.intro @pk_f (And.intro @pk_e (And.intro @eqb_e (And.intro @neb_e (And.intro @nc_e (And.intro @ex_e (And.intro @lnl_e (And.intro @lns_e (And.intro @idv_e (And.intro @cl_e (And.intro @cnd_e (And.intro @gd_e (And.intro @gd_u (And.intro @gdu_e (And.intro @rt_e (And.intro @jn_e (And.intro @dr_q (And.intro @kp_e (And.intro @mnm_e (And.intro @mxm_e (And.intro @mif_e (And.intro @asrt_e (And.intro @eqs_e (@nes_e)))))))))))))))))))))))))))))))))))))))))) := And.intro @bx_e (And.intro @al_e (And.intro @fa_e (And.intro @ld_e (And.intro @ad_e (And.intro @su_e (And.intro @mu_e (And.intro @lt_e (And.intro @le_e (And.intro @gt_e (And.intro @ge_e (And.intro @eqi_e (And.intro @nei_e (And.intro @qu_e (And.intro @re_e (And.intro @cv_e (And.intro @nt_e (And.intro @pk_t (And.intro @pk_f (And.intro @pk_e (And.intro @eqb_e (And.intro @neb_e (And.intro @nc_e (And.intro @ex_e (And.intro @lnl_e (And.intro @lns_e (And.intro @idv_e (And.intro @cl_e (And.intro @cnd_e (And.intro @gd_e (And.intro @gd_u (And.intro @gdu_e (And.intro @rt_e (And.intro @jn_e (And.intro @dr_q (And.intro @kp_e (And.intro @mnm_e (And.intro @mxm_e (And.intro @mif_e (And.intro @asrt_e (And.intro @eqs_e (@nes_e)))))))))))))))))))))))))))))))))))))))))
/-- what is plain, all in one -/
theorem LM : type_of% (And.intro @add_lit (And.intro @cell_psh_new (And.intro @cell_drw (And.intro @get4_0 (And.intro @get4_1 (And.intro @get4_2 (And.intro @get4_3 (And.intro @get3_0 (And.intro @get3_1 (And.intro @get3_2 (And.intro @get2_0 (And.intro @get2_1 (And.intro @get1_0 (And.intro @Nat.zero_add (And.intro @Bool.not_true (And.intro @Bool.not_false (And.intro @Bool.false_eq_true (And.intro @Bool.true_eq_false (And.intro @decide_eq_true_eq (And.intro @Bool.not_eq_true' (And.intro @decide_eq_false_iff_not (And.intro @not_false_eq_true (And.intro @not_true_eq_false (And.intro @Bool.true_and (And.intro @Bool.and_true (And.intro @Bool.false_and (And.intro @Bool.and_false (@decide_not)))))))))))))))))))))))))))) := And.intro @add_lit (And.intro @cell_psh_new (And.intro @cell_drw (And.intro @get4_0 (And.intro @get4_1 (And.intro @get4_2 (And.intro @get4_3 (And.intro @get3_0 (And.intro @get3_1 (And.intro @get3_2 (And.intro @get2_0 (And.intro @get2_1 (And.intro @get1_0 (And.intro @Nat.zero_add (And.intro @Bool.not_true (And.intro @Bool.not_false (And.intro @Bool.false_eq_true (And.intro @Bool.true_eq_false (And.intro @decide_eq_true_eq (And.intro @Bool.not_eq_true' (And.intro @decide_eq_false_iff_not (And.intro @not_false_eq_true (And.intro @not_true_eq_false (And.intro @Bool.true_and (And.intro @Bool.and_true (And.intro @Bool.false_and (And.intro @Bool.and_false (@decide_not)))))))))))))))))))))))))))
end Sh
end Go.Proofs.Ytlmiimojgledpaa

namespace Go.Proofs.Ytlmiimojgledpaa
namespace Sh
open RowKit
/-- What the tables say of a slice type T with elements E: their zero, cells, bytes. -/
def slT (P : Program) (t e : TypeId) (z : Value) (size bytes : Nat) : Prop :=
  P.underlying t = some (.slice e) ∧ (P.info? e).map (fun i => (i.zero, i.size, i.bytes)) = some (some z, size, bytes)
theorem slT_info {P : Program} {t e : TypeId} {z : Value} {size bytes : Nat} (h : slT P t e z size bytes) : ∃ i, P.underlying t = some (.slice e) ∧ P.info? e = some i ∧ i.zero = some z ∧ i.size = size ∧ i.bytes = bytes := by
  obtain ⟨h1, h2⟩ := h
  cases hi : P.info? e with
  | none => simp [hi] at h2
  | some i => simp [hi] at h2; exact ⟨i, h1, rfl, h2.1, h2.2.1, h2.2.2⟩
section
variable {P : Program} {w : World} {Q : Value → World → Prop} {K : Value → M} {B : Nat}
theorem scal_size {t : TypeId} (h : isSc P t = true) : (isAgg t).run P w = .ok false w := run_isAgg_sc h
/-- []T{x}: an element of one cell -/
theorem bsl1 {t e : TypeId} {z x : Value} {b : Nat} (h : slT P t e z 1 b) (hz : z.cells.size = 1) (hx : x.cells = #[x])
    (k : K (.slice (some ⟨w.heap.size, 0, none⟩) 1 1) (psh w (.cells #[x] e)) Q) : sm P (Instr.buildSlice t 1 #[(0, x)]) K w Q := by
  obtain ⟨i, h1, h2, h3, h4, h5⟩ := slT_info h
  refine ⟨_, _, ?_, k⟩
  have hc : ∃ y, z.cells = #[y] := by
    refine ⟨z.cells[0], ?_⟩
    apply Array.ext
    · simp [hz]
    · intro i h1 h2
      have : i = 0 := by omega
      subst this; rfl
  obtain ⟨y, hy⟩ := hc
  have hr : Array.range 1 = #[0] := rfl
  simp [Instr.buildSlice, underlying, h1, sizeOf, typeInfo, h2, h4, zeroValue, h3, hy, Instr.fill, hx, newRow, psh, hr]
/-- an append of elements to a row of the call's own -/
theorem ap_own {t ty e : TypeId} {z : Value} {size b : Nat} (h : slT P t e z size b) (hz : z.cells.size = size) (hs : 0 < size) {v : Value} {n : Nat} {xs : List Value} (hown : w.ownsRow B e size v n xs)
    {a : Addr} {m c : Nat} {news : List Value} (hl : news.length = m * size) (hnews : ∀ j u, news[j]? = some u → w.cell? (a.add j) = some u) (h1 : ∀ u ∈ news, u.oneCell' = true)
    (h63 : n + m ≤ maxLen) (hbytes : (n + m) * b ≤ 140737488355328) (hB : B ≤ w.heap.size)
    (k : ∀ v' w', w'.ownsRow B e size v' (n + m) (xs ++ news) → w.grownBy w' v.ownBlock → K v' w' Q) : sm P (Builtin.append_ #[t, t] ty #[v, .slice (some a) m c]) K w Q := by
  obtain ⟨i, g1, g2, g3, g4, g5⟩ := slT_info h
  obtain ⟨v', w', hr, ho, hg, _⟩ := run_append_own (P := P) w B t ty e i z size b g1 g2 g3 g4 g5 hz hs v n xs hown a m c news hl hnews h1 h63 hbytes hB
  exact ⟨v', w', hr, k v' w' ho hg⟩
theorem Below_grown {A : World} {w' : World} {v : Value} {e : TypeId} {size n : Nat} {xs : List Value} (h : Below B A w) (hown : w.ownsRow B e size v n xs) (hB : B ≤ w.heap.size) (hg : w.grownBy w' v.ownBlock) : Below B A w' :=
  h.grown hg hB (fun k hk => (hown.lt k hk).1)
end
/-- a slice of whole numbers, the call's own -/
def ownI (B : Nat) (e : TypeId) (k : IntKind) (w : World) (v : Value) (l : List Int) : Prop := w.ownsRow B e 1 v l.length (l.map (Value.int k))
theorem ownI_nil {B : Nat} {e : TypeId} {k : IntKind} {w : World} : ownI B e k w (.slice none 0 0) [] := World.ownsRow_nil w B e 1
theorem ownI_psh {B : Nat} {e : TypeId} {k : IntKind} {w : World} {v : Value} {l : List Int} (h : ownI B e k w v l) (o : Obj) : ownI B e k (psh w o) v l := World.ownsRow.alloc h o
theorem ownI_lit {B : Nat} {e : TypeId} {k : IntKind} {w : World} {l : List Int} (hB : B ≤ w.heap.size) (hm : l.length ≤ maxLen) :
    ownI B e k (psh w (.cells (l.map (Value.int k)).toArray e)) (.slice (some ⟨w.heap.size, 0, none⟩) l.length l.length) l := by
  have := World.ownsRow_lit (base := B) (e := e) (size := 1) w (l.map (Value.int k)).toArray l.length hB hm (by simp)
  exact this
theorem ownI_len {B : Nat} {e : TypeId} {k : IntKind} {w : World} {v : Value} {l : List Int} (h : ownI B e k w v l) : ∃ p c, v = .slice p l.length c ∧ (l ≠ [] → ∃ g, p = some ⟨g, 0, none⟩ ∧ B ≤ g ∧ g < w.heap.size) := by
  obtain ⟨h1, h2⟩ := h
  rcases h2 with ⟨rfl, h0⟩ | ⟨g, cap, cur, rfl, hg, hb, hn, hm, hs, ht⟩
  · exact ⟨none, 0, by rw [h0], fun hne => absurd (List.length_eq_zero_iff.1 h0) hne⟩
  · refine ⟨_, _, rfl, fun _ => ⟨g, rfl, hg, ?_⟩⟩
    rcases Nat.lt_or_ge g w.heap.size with h | h
    · exact h
    · simp [Array.getElem?_eq_none h] at hb
theorem ownI_cell {B : Nat} {e : TypeId} {k : IntKind} {w : World} {g c : Nat} {l : List Int} (h : ownI B e k w (.slice (some ⟨g, 0, none⟩) l.length c) l) (i : Nat) (hi : i < l.length) :
    w.cell? ⟨g, i, none⟩ = some (.int k l[i]) := by
  have := World.ownsRow.cellAt h i (by simpa using hi)
  rw [this]; simp [hi]
/-- the same list behind a world that has turned nothing of the call's own row -/
theorem ownI_below {B : Nat} {e : TypeId} {k : IntKind} {w w' : World} {v : Value} {l : List Int} (h : ownI B e k w v l) (hb : Below w.heap.size w w') : ownI B e k w' v l := by
  obtain ⟨h1, h2⟩ := h
  refine ⟨h1, ?_⟩
  rcases h2 with h2 | ⟨g, cap, cur, h3, hg, hb', rest⟩
  · exact .inl h2
  · refine .inr ⟨g, cap, cur, h3, hg, ?_, rest⟩
    rw [hb.block g ?_]; exact hb'
    rcases Nat.lt_or_ge g w.heap.size with h | h
    · exact h
    · simp [Array.getElem?_eq_none h] at hb'
theorem w64 {x : Int} (h0 : -9223372036854775808 ≤ x) (h1 : x ≤ 9223372036854775807) : IntKind.i64.wrap x = x := by
  unfold IntKind.wrap
  simp [IntKind.signed, IntKind.bits]
  omega
theorem w64_bd (x : Int) : -9223372036854775808 ≤ IntKind.i64.wrap x ∧ IntKind.i64.wrap x ≤ 9223372036854775807 := by
  unfold IntKind.wrap
  simp [IntKind.signed, IntKind.bits]
  omega
theorem wu64 {x : Int} (h0 : 0 ≤ x) (h1 : x ≤ 18446744073709551615) : IntKind.u64.wrap x = x := by
  unfold IntKind.wrap
  simp [IntKind.signed, IntKind.bits]
  omega
/-- a sum by way of uint64 -/
theorem w64_u (a b : Int) : IntKind.i64.wrap (IntKind.u64.wrap (IntKind.u64.wrap a + IntKind.u64.wrap b)) = IntKind.i64.wrap (a + b) := by
  unfold IntKind.wrap
  simp [IntKind.signed, IntKind.bits]
  try omega
/-- a slice that reads as whole numbers -/
def rdI (k : IntKind) (w : World) (v : Value) (l : List Int) : Prop :=
  ∃ p c, v = .slice p l.length c ∧ ∀ i (h : i < l.length), ∃ a, p = some a ∧ w.cell? (a.add i) = some (.int k l[i])
theorem ownI_rd {B : Nat} {e : TypeId} {k : IntKind} {w : World} {v : Value} {l : List Int} (h : ownI B e k w v l) : rdI k w v l := by
  obtain ⟨p, c, rfl, hp⟩ := ownI_len h
  refine ⟨p, c, rfl, fun i hi => ?_⟩
  obtain ⟨g, rfl, hB, hs⟩ := hp (fun e => by rw [e] at hi; simp at hi)
  refine ⟨_, rfl, ?_⟩
  rw [add_lit, Nat.zero_add]
  exact ownI_cell h i hi
theorem cell_lt {w : World} {a : Addr} {v : Value} (h : w.cell? a = some v) : a.block < w.heap.size := by
  unfold World.cell? at h
  rcases Nat.lt_or_ge a.block w.heap.size with h' | h'
  · exact h'
  · simp [Array.getElem?_eq_none h'] at h
theorem add_block (a : Addr) (n : Nat) : (a.add n).block = a.block := by unfold Addr.add; split <;> rfl
theorem cell_below {w w' : World} {a : Addr} {v : Value} (hb : Below w.heap.size w w') (h : w.cell? a = some v) : w'.cell? a = some v := by
  rw [hb.cell (cell_lt h)]; exact h
theorem rdI_below {k : IntKind} {w w' : World} {v : Value} {l : List Int} (hb : Below w.heap.size w w') (h : rdI k w v l) : rdI k w' v l := by
  obtain ⟨p, c, rfl, h⟩ := h
  refine ⟨p, c, rfl, fun i hi => ?_⟩
  obtain ⟨a, ha, hc⟩ := h i hi
  exact ⟨a, ha, cell_below hb hc⟩
theorem ia_ld {k j : IntKind} {w : World} {v : Value} {l : List Int} {i : Int} {K : Value → M} {Q : Value → World → Prop} (h : rdI k w v l) (h0 : 0 ≤ i) (h1 : i < l.length)
    (kk : ∀ (hh : i.toNat < l.length), K (.int k l[i.toNat]) w Q) : ia 1 v (.int j i) (fun p => ld p K) w Q := by
  obtain ⟨p, c, rfl, h⟩ := h
  obtain ⟨a, rfl, hc⟩ := h i.toNat (by omega)
  rw [ia_e]
  refine ⟨h0, h1, ?_⟩
  rw [Nat.mul_one, ld_e]
  exact ⟨_, hc, kk (by omega)⟩
theorem lnl_rd {k : IntKind} {w w1 : World} {v : Value} {l : List Int} {K : Value → M} {Q : Value → World → Prop} (h : rdI k w v l) (kk : K (.int .i64 l.length) w1 Q) : lnl v K w1 Q := by
  obtain ⟨p, c, rfl, h⟩ := h
  rw [lnl_e]; exact kk
/-! stores of several cells -/
theorem blk_setCell {w : World} {b o : Nat} {c : Array Value} {t : TypeId} {fr : Nat × Nat} {v : Value} (h : w.heap[b]? = some (.cells c t fr)) : (w.setCell ⟨b, o, none⟩ v).heap[b]? = some (.cells (c.setIfInBounds o v) t fr) := by
  simp [World.setCell, Array.getElem?_modify, h]
theorem blk_setCell_ne {w : World} {a : Addr} {k : Nat} {v : Value} (h : k ≠ a.block) : (w.setCell a v).heap[k]? = w.heap[k]? := Below.heap_setCell w a v k h
theorem frozen_zero {w : World} {b o : Nat} {c : Array Value} {t : TypeId} (h : w.heap[b]? = some (.cells c t (0, 0))) : w.frozen? ⟨b, o, none⟩ = false := by
  simp [World.frozen?, h]
structure Upd (b : Nat) (w w' : World) : Prop where
  os : w'.os = w.os
  tape : w'.tape = w.tape
  output : w'.output = w.output
  size : w'.heap.size = w.heap.size
  block : ∀ k, k ≠ b → w'.heap[k]? = w.heap[k]?
theorem Upd.below {b B : Nat} {w w' : World} (h : Upd b w w') (hB : B ≤ b) : Below B w w' := ⟨h.os, h.tape, h.output, by rw [h.size]; exact Nat.le_refl _, fun k hk => h.block k (by omega)⟩
theorem sts_blk {b o : Nat} {t : TypeId} : ∀ (l : List Value) (i : Nat) (w : World) (c : Array Value), w.heap[b]? = some (.cells c t (0, 0)) → o + i + l.length ≤ c.size → (∀ v ∈ l, v.oneCell' = true) →
    ∃ w' c', sts w ⟨b, o, none⟩ l i = some w' ∧ w'.heap[b]? = some (.cells c' t (0, 0)) ∧ c'.toList = c.toList.take (o + i) ++ l ++ c.toList.drop (o + i + l.length) ∧ Upd b w w' := by
  intro l
  induction l with
  | nil => intro i w c h hs h1; exact ⟨w, c, rfl, h, by simp, rfl, rfl, rfl, rfl, fun _ _ => rfl⟩
  | cons v l ih =>
    intro i w c h hs h1
    simp only [List.length_cons] at hs
    have hc : (w.cell? ⟨b, o + i, none⟩).isSome = true := by rw [cell_of_blk h]; simp; omega
    have hf : w.frozen? ⟨b, o + i, none⟩ = false := frozen_zero h
    have hv := h1 v (by simp)
    obtain ⟨w', c', e1, e2, e3, e4⟩ := ih (i + 1) (w.setCell ⟨b, o + i, none⟩ v) _ (blk_setCell h) (by simp; omega) (fun u hu => h1 u (by simp [hu]))
    refine ⟨w', c', ?_, e2, ?_, ?_⟩
    · simp only [sts, add_lit, hc, hf, hv, Bool.not_false, Bool.and_self, if_true]
      exact e1
    · rw [e3]
      simp only [Array.toList_setIfInBounds, List.length_cons]
      have hlt : o + i < c.toList.length := by simp; omega
      have q1 : (c.toList.set (o + i) v).take (o + (i + 1)) = c.toList.take (o + i) ++ [v] := by
        rw [← Nat.add_assoc, List.take_succ_eq_append_getElem (by simpa using hlt)]
        simp [List.take_set]
        rw [List.set_eq_of_length_le (by simp; omega)]
      have q2 : (c.toList.set (o + i) v).drop (o + (i + 1) + l.length) = c.toList.drop (o + i + (l.length + 1)) := by
        rw [List.drop_set_of_lt (by omega)]; congr 1; omega
      rw [q1, q2]; simp
    · exact ⟨e4.os, e4.tape, e4.output, by rw [e4.size, size_setCell], fun k hk => by rw [e4.block k hk]; exact blk_setCell_ne hk⟩
/-- a whole block stored anew -/
theorem stn_box {n b : Nat} {w : World} {c cs : Array Value} {t : TypeId} {K0 : M} {Q : Value → World → Prop} (h : w.heap[b]? = some (.cells c t (0, 0))) (hc : c.size = n) (hn : cs.size = n) (h1 : ∀ v ∈ cs.toList, v.oneCell' = true)
    (k : ∀ w', w'.heap[b]? = some (.cells cs t (0, 0)) → Upd b w w' → K0 w' Q) : stn n (.pointer (some ⟨b, 0, none⟩)) (.agg cs) K0 w Q := by
  obtain ⟨w', c', e1, e2, e3, e4⟩ := sts_blk (o := 0) cs.toList 0 w c h (by simp; omega) h1
  refine ⟨_, cs, w', rfl, rfl, hn, e1, k w' ?_ e4⟩
  have : c' = cs := by
    apply Array.ext'
    rw [e3]
    simp [hn, hc]
  rw [← this]; exact e2
theorem zero_run {P : Program} {t : TypeId} {z : Value} (hz : zeroIs P t z) (w : World) : (zeroValue t).run P w = .ok z w := by
  unfold zeroIs at hz
  cases hu : P.info? t with
  | none => simp [hu] at hz
  | some i => simp [hu] at hz; simp [zeroValue, typeInfo, hu, hz]
end Sh
end Go.Proofs.Ytlmiimojgledpaa

set_option maxRecDepth 20000
set_option maxHeartbeats 4000000
namespace Go.Proofs.Ytlmiimojgledpaa
open Sh
attribute [local irreducible] wpL anyG act jn lo gdB amb kp smr nc fa ld ldn st stn ad su mu qu re lt le gt ge eqi nei bws shl shr cat eqs nes lts gts eqb neb nt pk cv al bx ex fld fldn lnl lns ia iaa ixs sls sll sla mif mnm mxm mm asrt sm smu cl cc cf ci cnd gd gdu
theorem ae23 : arE Try.prog 23 2 1 = true := by kernel_rfl
theorem ae44 : arE Try.prog 44 2 1 = true := by kernel_rfl
theorem ag31 : isAg Try.prog 31 3 = true := by kernel_rfl
theorem ai3 : (match Program.underlying Try.prog 3 with | some (.int _) => true | _ => false) = true := by kernel_rfl
theorem ai74 : (match Program.underlying Try.prog 74 with | some (.int _) => true | _ => false) = true := by kernel_rfl
theorem co9 : isConc Try.prog 9 = true := by kernel_rfl
theorem fo31_0 : fOff Try.prog 31 0 0 = true := by kernel_rfl
theorem fo31_1 : fOff Try.prog 31 1 1 = true := by kernel_rfl
theorem fo31_2 : fOff Try.prog 31 2 2 = true := by kernel_rfl
theorem in3 : isInt Try.prog 3 .i64 = true := by kernel_rfl
theorem in74 : isInt Try.prog 74 .u64 = true := by kernel_rfl
theorem is22 : isSl Try.prog 22 = true := by kernel_rfl
theorem is32 : isSl Try.prog 32 = true := by kernel_rfl
theorem is33 : isSl Try.prog 33 = true := by kernel_rfl
theorem is43 : isSl Try.prog 43 = true := by kernel_rfl
theorem on33 : isOne Try.prog 33 = true := by kernel_rfl
theorem sc2 : isSc Try.prog 2 = true := by kernel_rfl
theorem sc22 : isSc Try.prog 22 = true := by kernel_rfl
theorem sc29 : isSc Try.prog 29 = true := by kernel_rfl
theorem sc3 : isSc Try.prog 3 = true := by kernel_rfl
theorem sc32 : isSc Try.prog 32 = true := by kernel_rfl
theorem sc33 : isSc Try.prog 33 = true := by kernel_rfl
theorem sc9 : isSc Try.prog 9 = true := by kernel_rfl
theorem se22 : slE Try.prog 22 1 = true := by kernel_rfl
theorem se32 : slE Try.prog 32 3 = true := by kernel_rfl
theorem se33 : slE Try.prog 33 3 = true := by kernel_rfl
theorem se43 : slE Try.prog 43 1 = true := by kernel_rfl
theorem st9 : isStr Try.prog 9 = true := by kernel_rfl
theorem ze31 : zeroIs Try.prog 31 (.agg #[(.int .i64 0), (.int .i64 0), (.string ⟨#[]⟩)]) := by unfold zeroIs; kernel_rfl
theorem slt22 : slT Try.prog 22 33 (.slice none 0 0) 1 24 := ⟨by kernel_rfl, by kernel_rfl⟩
theorem slt32 : slT Try.prog 32 31 (.agg #[(.int .i64 0), (.int .i64 0), (.string ⟨#[]⟩)]) 3 32 := ⟨by kernel_rfl, by kernel_rfl⟩
theorem slt33 : slT Try.prog 33 31 (.agg #[(.int .i64 0), (.int .i64 0), (.string ⟨#[]⟩)]) 3 32 := ⟨by kernel_rfl, by kernel_rfl⟩
theorem slt43 : slT Try.prog 43 3 (.int .i64 0) 1 8 := ⟨by kernel_rfl, by kernel_rfl⟩
theorem nn8 : (Try.f8.name == "runtime.NumGoroutine") = false := by kernel_rfl
theorem nn9 : (Try.f9.name == "runtime.NumGoroutine") = false := by kernel_rfl
theorem nn10 : (Try.f10.name == "runtime.NumGoroutine") = false := by kernel_rfl
theorem nn11 : (Try.f11.name == "runtime.NumGoroutine") = false := by kernel_rfl
theorem nn12 : (Try.f12.name == "runtime.NumGoroutine") = false := by kernel_rfl
theorem nn13 : (Try.f13.name == "runtime.NumGoroutine") = false := by kernel_rfl
theorem nn14 : (Try.f14.name == "runtime.NumGoroutine") = false := by kernel_rfl
theorem nn15 : (Try.f15.name == "runtime.NumGoroutine") = false := by kernel_rfl
theorem nn16 : (Try.f16.name == "runtime.NumGoroutine") = false := by kernel_rfl
theorem nn17 : (Try.f17.name == "runtime.NumGoroutine") = false := by kernel_rfl
theorem nn18 : (Try.f18.name == "runtime.NumGoroutine") = false := by kernel_rfl
theorem nn19 : (Try.f19.name == "runtime.NumGoroutine") = false := by kernel_rfl
theorem nn20 : (Try.f20.name == "runtime.NumGoroutine") = false := by kernel_rfl
theorem nn21 : (Try.f21.name == "runtime.NumGoroutine") = false := by kernel_rfl
theorem nn22 : (Try.f22.name == "runtime.NumGoroutine") = false := by kernel_rfl
theorem nn23 : (Try.f23.name == "runtime.NumGoroutine") = false := by kernel_rfl
theorem nn24 : (Try.f24.name == "runtime.NumGoroutine") = false := by kernel_rfl
theorem nn25 : (Try.f25.name == "runtime.NumGoroutine") = false := by kernel_rfl
theorem nn26 : (Try.f26.name == "runtime.NumGoroutine") = false := by kernel_rfl
theorem nn27 : (Try.f27.name == "runtime.NumGoroutine") = false := by kernel_rfl
theorem nn28 : (Try.f28.name == "runtime.NumGoroutine") = false := by kernel_rfl
theorem nn29 : (Try.f29.name == "runtime.NumGoroutine") = false := by kernel_rfl
theorem nn30 : (Try.f30.name == "runtime.NumGoroutine") = false := by kernel_rfl
theorem nn31 : (Try.f31.name == "runtime.NumGoroutine") = false := by kernel_rfl
theorem nn32 : (Try.f32.name == "runtime.NumGoroutine") = false := by kernel_rfl
theorem nn35 : (Try.f35.name == "runtime.NumGoroutine") = false := by kernel_rfl
theorem nn36 : (Try.f36.name == "runtime.NumGoroutine") = false := by kernel_rfl
theorem nn39 : (Try.f39.name == "runtime.NumGoroutine") = false := by kernel_rfl
theorem nn41 : (Try.f41.name == "runtime.NumGoroutine") = false := by kernel_rfl
theorem nn42 : (Try.f42.name == "runtime.NumGoroutine") = false := by kernel_rfl
theorem nn43 : (Try.f43.name == "runtime.NumGoroutine") = false := by kernel_rfl
theorem nn45 : (Try.f45.name == "runtime.NumGoroutine") = false := by kernel_rfl
theorem nn47 : (Try.f47.name == "runtime.NumGoroutine") = false := by kernel_rfl
theorem nn48 : (Try.f48.name == "runtime.NumGoroutine") = false := by kernel_rfl
theorem nn49 : (Try.f49.name == "runtime.NumGoroutine") = false := by kernel_rfl
theorem nn50 : (Try.f50.name == "runtime.NumGoroutine") = false := by kernel_rfl
theorem nn51 : (Try.f51.name == "runtime.NumGoroutine") = false := by kernel_rfl
theorem nn52 : (Try.f52.name == "runtime.NumGoroutine") = false := by kernel_rfl
theorem nn53 : (Try.f53.name == "runtime.NumGoroutine") = false := by kernel_rfl
theorem nn54 : (Try.f54.name == "runtime.NumGoroutine") = false := by kernel_rfl
theorem nn55 : (Try.f55.name == "runtime.NumGoroutine") = false := by kernel_rfl
theorem nn56 : (Try.f56.name == "runtime.NumGoroutine") = false := by kernel_rfl
theorem nn57 : (Try.f57.name == "runtime.NumGoroutine") = false := by kernel_rfl
theorem nn58 : (Try.f58.name == "runtime.NumGoroutine") = false := by kernel_rfl
theorem nn59 : (Try.f59.name == "runtime.NumGoroutine") = false := by kernel_rfl
theorem nn60 : (Try.f60.name == "runtime.NumGoroutine") = false := by kernel_rfl
theorem nn61 : (Try.f61.name == "runtime.NumGoroutine") = false := by kernel_rfl
theorem nn62 : (Try.f62.name == "runtime.NumGoroutine") = false := by kernel_rfl
theorem nn63 : (Try.f63.name == "runtime.NumGoroutine") = false := by kernel_rfl
end Go.Proofs.Ytlmiimojgledpaa

set_option maxRecDepth 20000
set_option maxHeartbeats 4000000
namespace Go.Proofs.Ytlmiimojgledpaa
open Sh
attribute [local irreducible] wpL anyG act jn lo gdB amb kp smr nc fa ld ldn st stn ad su mu qu re lt le gt ge eqi nei bws shl shr cat eqs nes lts gts eqb neb nt pk cv al bx ex fld fldn lnl lns ia iaa ixs sls sll sla mif mnm mxm mm asrt sm smu cl cc cf ci cnd gd gdu
/- slices.IndexFunc[[]factotum/api.Row,factotum/api.Row] -/
def f54_b2 (j1 : M) (self2 : Value → Value → Value → Value → M) (t0_1 t1_1 t7_1 t8 : Value) : M :=
  lt .i64 t8 t7_1 fun t9 =>
  cnd t9 (
    ia 1 t0_1 t8 fun t14 =>
    ld t14 fun t15 =>
    cf Try.prog t1_1 #[t15] fun t16 =>
    cnd t16 (
      rt t8
      ) (
      ad .i64 t8 (.int .i64 1) fun t18 =>
      self2 t0_1 t1_1 t7_1 t18
      )
    ) (
    j1
    )
def f54_j1 : M :=
  rt (.int .i64 (-1))
def f54 (t0 t1 : Value) : M :=
  lnl t0 fun t7 =>
  jn (fun (j1 : M) =>
    lo (fun _ _ _ _ => bot) (f54_b2 j1) (fun l => l t0 t1 t7 (.int .i64 0))
    ) (f54_j1)
theorem s54 (t0 t1 : Value) (w : World) (Q : Value → World → Prop) (h : f54 t0 t1 w Q) : Calls Try.prog 54 #[t0, t1] w (Rt Q) := by
  refine calls_of (l := [t0, t1]) Try.func54 rfl Try.ntmps54 (Nat.le_of_ble_eq_true rfl) ?_
  unfold f54 at h
  refine wp_seq ?_
  refine L_region ?_
  refine L_as ?_
  refine L_nil ?_
  refine E_n ?_
  refine wp_seq ?_
  refine wp_seq ?_
  refine L_region ?_
  refine L_mv ?_
  refine L_u (P_lnl is22 h) ?_
  intro v w h
  refine L_mv ?_
  refine L_nil ?_
  refine E_n ?_
  refine C_join (fun (k : M) (ρ : Nat → Value) => k) h (fun j1 J1 h => ?_) (fun ρ w h => ?_)
  · refine C_blk ?_
    refine C_lo (fun (l : Value → Value → Value → Value → M) (ρ : Nat → Value) => l (ρ 0) (ρ 1) (ρ 7) (ρ 8)) h (fun ρ w h => h) (fun nx self2 L2 ρ w h => ?_)
    unfold f54_b2 at h
    refine wp_seq ?_
    refine L_region ?_
    refine L_u (P_lt h) ?_
    intro v w h
    refine L_nil ?_
    refine E_n ?_
    refine wp_seq ?_
    refine C_cnd h (fun h => ?_) (fun h => ?_)
    · refine C_skip ?_
      refine E_n ?_
      refine wp_seq ?_
      refine C_blk ?_
      refine wp_seq ?_
      refine L_region ?_
      refine L_mv ?_
      refine L_as ?_
      refine L_nil ?_
      refine E_n ?_
      refine wp_seq ?_
      refine L_region ?_
      refine L_mv ?_
      refine L_mv ?_
      refine L_mv ?_
      refine L_u (P_ia se22 h) ?_
      intro v w h
      refine L_u (P_ld sc33 h) ?_
      intro v w h
      refine L_u (N_cf h) ?_
      intro v w h
      refine L_nil ?_
      refine E_n ?_
      refine C_cnd h (fun h => ?_) (fun h => ?_)
      · refine wp_seq ?_
        refine L_region ?_
        refine L_mv ?_
        refine L_as ?_
        refine L_nil ?_
        refine E_n ?_
        refine C_ret ?_
        show bodyPost Try.prog Try.f54 (Rt Q) .ret _ _
        exact post_tmps (ts := [4]) (.inr rfl) rfl h
      · refine C_skip ?_
        refine B_n ?_
        refine E_n ?_
        refine L_region ?_
        refine L_u (P_ad h) ?_
        intro v w h
        refine L_mv ?_
        refine L_nil ?_
        refine E_n ?_
        exact L2 _ _ h
    · refine C_exit ?_
      refine E_x ?_
      refine E_x ?_
      refine B_x ?_
      exact J1 _ _ h
  · unfold f54_j1 at h
    refine E_n ?_
    refine wp_seq ?_
    refine L_region ?_
    refine L_as ?_
    refine L_nil ?_
    refine E_n ?_
    refine C_ret ?_
    show bodyPost Try.prog Try.f54 (Rt Q) .ret _ _
    exact post_tmps (ts := [4]) (.inr rfl) rfl h

/- slices.ContainsFunc[[]factotum/api.Row,factotum/api.Row] -/
def f43 (t0 t1 : Value) : M :=
  cl (f54 t0 t1) fun t7 =>
  ge .i64 t7 (.int .i64 0) fun t8 =>
  rt t8
theorem s43 (t0 t1 : Value) (w : World) (Q : Value → World → Prop) (h : f43 t0 t1 w Q) : Calls Try.prog 43 #[t0, t1] w (Rt Q) := by
  refine calls_of (l := [t0, t1]) Try.func43 rfl Try.ntmps43 (Nat.le_of_ble_eq_true rfl) ?_
  unfold f43 at h
  refine wp_seq ?_
  refine L_region ?_
  refine L_as ?_
  refine L_nil ?_
  refine E_n ?_
  refine wp_seq ?_
  refine L_region ?_
  refine L_mv ?_
  refine L_mv ?_
  refine L_u (N_cl Try.func54 rfl nn54 (fun w Q h => s54 _ _ w Q h) h) ?_
  intro v w h
  refine L_u (P_ge h) ?_
  intro v w h
  refine L_as ?_
  refine L_nil ?_
  refine E_n ?_
  refine C_ret ?_
  show bodyPost Try.prog Try.f43 (Rt Q) .ret _ _
  exact post_tmps (ts := [4]) (.inr rfl) rfl h

/- factotum/relate.lacks -/
def f42 (t0 t1 : Value) : M :=
  lt .i64 t1 (.int .i64 0) fun t6 =>
  gd t6 false (idv t1) fun t8 =>
  gd t6 false (idv t0) fun t9 =>
  gd t6 false (lnl t9) fun t10 =>
  gd t6 false (ge .i64 t8 t10) fun t11 =>
  pk t6 (.bool true) t11 fun t12 =>
  rt t12
theorem s42 (t0 t1 : Value) (w : World) (Q : Value → World → Prop) (h : f42 t0 t1 w Q) : Calls Try.prog 42 #[t0, t1] w (Rt Q) := by
  refine calls_of (l := [t0, t1]) Try.func42 rfl Try.ntmps42 (Nat.le_of_ble_eq_true rfl) ?_
  unfold f42 at h
  refine wp_seq ?_
  refine L_region ?_
  refine L_as ?_
  refine L_nil ?_
  refine E_n ?_
  refine wp_seq ?_
  refine L_region ?_
  refine L_mv ?_
  refine L_u (P_lt h) ?_
  intro v w h
  refine L_mv ?_
  refine L_g (t := 7) h rfl rfl (fun c h => P_mv h c) ?_
  intro v w h
  refine L_g (t := 7) h rfl rfl (fun c h => P_mv h c) ?_
  intro v w h
  refine L_g (t := 7) h rfl rfl (fun c h => P_lnl is33 h c) ?_
  intro v w h
  refine L_g (t := 7) h rfl rfl (fun c h => P_ge h c) ?_
  intro v w h
  refine L_u (P_pk h) ?_
  intro v w h
  refine L_as ?_
  refine L_nil ?_
  refine E_n ?_
  refine C_ret ?_
  show bodyPost Try.prog Try.f42 (Rt Q) .ret _ _
  exact post_tmps (ts := [4]) (.inr rfl) rfl h

/- factotum/relate.lack$1 -/
def f44 (t0 t1 : Value) : M :=
  ld t1 fun t5 =>
  cl (f42 t0 t5) fun t6 =>
  rt t6
theorem s44 (t0 t1 : Value) (w : World) (Q : Value → World → Prop) (h : f44 t0 t1 w Q) : Calls Try.prog 44 #[t0, t1] w (Rt Q) := by
  refine calls_of (l := [t0, t1]) Try.func44 rfl Try.ntmps44 (Nat.le_of_ble_eq_true rfl) ?_
  unfold f44 at h
  refine wp_seq ?_
  refine L_region ?_
  refine L_as ?_
  refine L_nil ?_
  refine E_n ?_
  refine wp_seq ?_
  refine L_region ?_
  refine L_mv ?_
  refine L_u (P_ld sc3 h) ?_
  intro v w h
  refine L_u (N_cl Try.func42 rfl nn42 (fun w Q h => s42 _ _ w Q h) h) ?_
  intro v w h
  refine L_as ?_
  refine L_nil ?_
  refine E_n ?_
  refine C_ret ?_
  show bodyPost Try.prog Try.f44 (Rt Q) .ret _ _
  exact post_tmps (ts := [3]) (.inr rfl) rfl h

/- factotum/relate.lack -/
def f26 (t0 t1 : Value) : M :=
  bx 3 t1 fun t3 =>
  idv (.func (.func 44) #[] #[t3]) fun t6 =>
  cl (f43 t0 t6) fun t7 =>
  rt t7
theorem s26 (t0 t1 : Value) (w : World) (Q : Value → World → Prop) (h : f26 t0 t1 w Q) : Calls Try.prog 26 #[t0, t1] w (Rt Q) := by
  refine calls_of (l := [t0, t1]) Try.func26 rfl Try.ntmps26 (Nat.le_of_ble_eq_true rfl) ?_
  unfold f26 at h
  refine wp_seq ?_
  refine L_region ?_
  refine L_u (P_bx h) ?_
  intro v w h
  refine L_as ?_
  refine L_nil ?_
  refine E_n ?_
  refine wp_seq ?_
  refine L_region ?_
  refine L_mv ?_
  refine L_u (N_mf h) ?_
  intro v w h
  refine L_u (N_cl Try.func43 rfl nn43 (fun w Q h => s43 _ _ w Q h) h) ?_
  intro v w h
  refine L_as ?_
  refine L_nil ?_
  refine E_n ?_
  refine C_ret ?_
  show bodyPost Try.prog Try.f26 (Rt Q) .ret _ _
  exact post_tmps (ts := [4]) (.inr rfl) rfl h

/- slices.Grow[factotum/api.Row,factotum/api.Value] -/
def f45_j1 (t0_1 : Value) : M :=
  rt t0_1
def f45 (t0 t1 : Value) : M :=
  lt .i64 t1 (.int .i64 0) fun t6 =>
  cnd t6 (
    mif 9 (.string ⟨#[99, 97, 110, 110, 111, 116, 32, 98, 101, 32, 110, 101, 103, 97, 116, 105, 118, 101]⟩) fun t7 =>
    bot
    ) (
    sm Try.prog (Builtin.cap_ #[33] 3 #[t0]) fun t10 =>
    lnl t0 fun t12 =>
    su .i64 t10 t12 fun t13 =>
    su .i64 t1 t13 fun t14 =>
    gt .i64 t14 (.int .i64 0) fun t16 =>
    jn (fun (j1 : Value → M) =>
      cnd t16 (
        sm Try.prog (Builtin.cap_ #[33] 3 #[t0]) fun t19 =>
        sll 3 t0 none (some t19) fun t20 =>
        sm Try.prog (Builtin.append_ #[33, 3] 33 #[t20, t14]) fun t22 =>
        lnl t0 fun t24 =>
        sll 3 t22 none (some t24) fun t25 =>
        j1 t25
        ) (
        j1 t0
        )
      ) (f45_j1)
    )
theorem s45 (t0 t1 : Value) (w : World) (Q : Value → World → Prop) (h : f45 t0 t1 w Q) : Calls Try.prog 45 #[t0, t1] w (Rt Q) := by
  refine calls_of (l := [t0, t1]) Try.func45 rfl Try.ntmps45 (Nat.le_of_ble_eq_true rfl) ?_
  unfold f45 at h
  refine wp_seq ?_
  refine L_region ?_
  refine L_as ?_
  refine L_nil ?_
  refine E_n ?_
  refine wp_seq ?_
  refine wp_seq ?_
  refine L_region ?_
  refine L_mv ?_
  refine L_u (P_lt h) ?_
  intro v w h
  refine L_nil ?_
  refine E_n ?_
  refine C_cnd h (fun h => ?_) (fun h => ?_)
  · refine L_region ?_
    refine L_u (P_mif co9 h) ?_
    intro v w h
    exact (h : False).elim
  · refine C_skip ?_
    refine E_n ?_
    refine wp_seq ?_
    refine wp_seq ?_
    refine L_region ?_
    refine L_mv ?_
    refine L_mv ?_
    refine L_u (N_bi rfl h) ?_
    intro v w h
    refine L_mv ?_
    refine L_u (P_lnl is33 h) ?_
    intro v w h
    refine L_u (P_su h) ?_
    intro v w h
    refine L_u (P_su h) ?_
    intro v w h
    refine L_as ?_
    refine L_nil ?_
    refine E_n ?_
    refine wp_seq ?_
    refine L_region ?_
    refine L_mv ?_
    refine L_u (P_gt h) ?_
    intro v w h
    refine L_nil ?_
    refine E_n ?_
    refine C_join (fun (k : Value → M) (ρ : Nat → Value) => k (ρ 0)) h (fun j1 J1 h => ?_) (fun ρ w h => ?_)
    · refine C_cnd h (fun h => ?_) (fun h => ?_)
      · refine L_region ?_
        refine L_mv ?_
        refine L_mv ?_
        refine L_u (N_bi rfl h) ?_
        intro v w h
        refine L_u (P_sll se33 h) ?_
        intro v w h
        refine L_mv ?_
        refine L_u (N_bi rfl h) ?_
        intro v w h
        refine L_mv ?_
        refine L_u (P_lnl is33 h) ?_
        intro v w h
        refine L_u (P_sll se33 h) ?_
        intro v w h
        refine L_as ?_
        refine L_nil ?_
        exact J1 _ _ h
      · refine C_skip ?_
        exact J1 _ _ h
    · unfold f45_j1 at h
      refine E_n ?_
      refine wp_seq ?_
      refine L_region ?_
      refine L_mv ?_
      refine L_as ?_
      refine L_nil ?_
      refine E_n ?_
      refine C_ret ?_
      show bodyPost Try.prog Try.f45 (Rt Q) .ret _ _
      exact post_tmps (ts := [4]) (.inr rfl) rfl h

/- slices.Concat[factotum/api.Row,factotum/api.Value] -/
def f27_b2 (j1 : Value → Value → M) (self2 : Value → Value → Value → Value → Value → M) (t0_1 t3 t9 t10_1 t11 : Value) : M :=
  lt .i64 t11 t10_1 fun t12 =>
  cnd t12 (
    ia 1 t9 t11 fun t13 =>
    ld t13 fun t14 =>
    lnl t14 fun t17 =>
    ad .i64 t3 t17 fun t18 =>
    lt .i64 t18 (.int .i64 0) fun t20 =>
    cnd t20 (
      mif 9 (.string ⟨#[108, 101, 110, 32, 111, 117, 116, 32, 111, 102, 32, 114, 97, 110, 103, 101]⟩) fun t21 =>
      bot
      ) (
      ad .i64 t11 (.int .i64 1) fun t22 =>
      self2 t0_1 t18 t9 t10_1 t22
      )
    ) (
    j1 t0_1 t3
    )
def f27_b4 (j3 : Value → M) (self4 : Value → Value → Value → Value → M) (t6 t25 t26_1 t27 : Value) : M :=
  lt .i64 t27 t26_1 fun t28 =>
  cnd t28 (
    ia 1 t25 t27 fun t29 =>
    ld t29 fun t30 =>
    sm Try.prog (Builtin.append_ #[33, 33] 33 #[t6, t30]) fun t33 =>
    ad .i64 t27 (.int .i64 1) fun t34 =>
    self4 t33 t25 t26_1 t34
    ) (
    j3 t6
    )
def f27_j3 (t6_1 : Value) : M :=
  rt t6_1
def f27_j1 (t0_2 t3_1 : Value) : M :=
  cl (f45 (.slice none 0 0) t3_1) fun t24 =>
  lnl t0_2 fun t26 =>
  jn (fun (j3 : Value → M) =>
    lo (fun _ _ _ _ => bot) (f27_b4 j3) (fun l => l t24 t0_2 t26 (.int .i64 0))
    ) (f27_j3)
def f27 (t0 : Value) : M :=
  lnl t0 fun t10 =>
  jn (fun (j1 : Value → Value → M) =>
    lo (fun _ _ _ _ _ => bot) (f27_b2 j1) (fun l => l t0 (.int .i64 0) t0 t10 (.int .i64 0))
    ) (f27_j1)
theorem s27 (t0 : Value) (w : World) (Q : Value → World → Prop) (h : f27 t0 w Q) : Calls Try.prog 27 #[t0] w (Rt Q) := by
  refine calls_of (l := [t0]) Try.func27 rfl Try.ntmps27 (Nat.le_of_ble_eq_true rfl) ?_
  unfold f27 at h
  refine wp_seq ?_
  refine L_region ?_
  refine L_as ?_
  refine L_nil ?_
  refine E_n ?_
  refine wp_seq ?_
  refine L_region ?_
  refine L_as ?_
  refine L_nil ?_
  refine E_n ?_
  refine wp_seq ?_
  refine wp_seq ?_
  refine L_region ?_
  refine L_mv ?_
  refine L_u (P_lnl is22 h) ?_
  intro v w h
  refine L_mv ?_
  refine L_nil ?_
  refine E_n ?_
  refine C_join (fun (k : Value → Value → M) (ρ : Nat → Value) => k (ρ 0) (ρ 3)) h (fun j1 J1 h => ?_) (fun ρ w h => ?_)
  · refine C_blk ?_
    refine C_lo (fun (l : Value → Value → Value → Value → Value → M) (ρ : Nat → Value) => l (ρ 0) (ρ 3) (ρ 9) (ρ 10) (ρ 11)) h (fun ρ w h => h) (fun nx self2 L2 ρ w h => ?_)
    unfold f27_b2 at h
    refine wp_seq ?_
    refine L_region ?_
    refine L_u (P_lt h) ?_
    intro v w h
    refine L_nil ?_
    refine E_n ?_
    refine wp_seq ?_
    refine C_cnd h (fun h => ?_) (fun h => ?_)
    · refine C_skip ?_
      refine E_n ?_
      refine wp_seq ?_
      refine C_blk ?_
      refine wp_seq ?_
      refine L_region ?_
      refine L_u (P_ia se22 h) ?_
      intro v w h
      refine L_u (P_ld sc33 h) ?_
      intro v w h
      refine L_as ?_
      refine L_nil ?_
      refine E_n ?_
      refine wp_seq ?_
      refine L_region ?_
      refine L_mv ?_
      refine L_mv ?_
      refine L_u (P_lnl is33 h) ?_
      intro v w h
      refine L_u (P_ad h) ?_
      intro v w h
      refine L_as ?_
      refine L_nil ?_
      refine E_n ?_
      refine wp_seq ?_
      refine L_region ?_
      refine L_mv ?_
      refine L_u (P_lt h) ?_
      intro v w h
      refine L_nil ?_
      refine E_n ?_
      refine C_cnd h (fun h => ?_) (fun h => ?_)
      · refine L_region ?_
        refine L_u (P_mif co9 h) ?_
        intro v w h
        exact (h : False).elim
      · refine C_skip ?_
        refine B_n ?_
        refine E_n ?_
        refine L_region ?_
        refine L_u (P_ad h) ?_
        intro v w h
        refine L_mv ?_
        refine L_nil ?_
        refine E_n ?_
        exact L2 _ _ h
    · refine C_exit ?_
      refine E_x ?_
      refine E_x ?_
      refine B_x ?_
      exact J1 _ _ h
  · unfold f27_j1 at h
    refine E_n ?_
    refine wp_seq ?_
    refine L_region ?_
    refine L_mv ?_
    refine L_u (N_cl Try.func45 rfl nn45 (fun w Q h => s45 _ _ w Q h) h) ?_
    intro v w h
    refine L_as ?_
    refine L_nil ?_
    refine E_n ?_
    refine wp_seq ?_
    refine wp_seq ?_
    refine L_region ?_
    refine L_mv ?_
    refine L_u (P_lnl is22 h) ?_
    intro v w h
    refine L_mv ?_
    refine L_nil ?_
    refine E_n ?_
    refine C_join (fun (k : Value → M) (ρ : Nat → Value) => k (ρ 6)) h (fun j3 J3 h => ?_) (fun ρ w h => ?_)
    · refine C_blk ?_
      refine C_lo (fun (l : Value → Value → Value → Value → M) (ρ : Nat → Value) => l (ρ 6) (ρ 25) (ρ 26) (ρ 27)) h (fun ρ w h => h) (fun nx self4 L4 ρ w h => ?_)
      unfold f27_b4 at h
      refine wp_seq ?_
      refine L_region ?_
      refine L_u (P_lt h) ?_
      intro v w h
      refine L_nil ?_
      refine E_n ?_
      refine wp_seq ?_
      refine C_cnd h (fun h => ?_) (fun h => ?_)
      · refine C_skip ?_
        refine E_n ?_
        refine wp_seq ?_
        refine C_blk ?_
        refine wp_seq ?_
        refine L_region ?_
        refine L_u (P_ia se22 h) ?_
        intro v w h
        refine L_u (P_ld sc33 h) ?_
        intro v w h
        refine L_as ?_
        refine L_nil ?_
        refine E_n ?_
        refine L_region ?_
        refine L_mv ?_
        refine L_mv ?_
        refine L_u (N_bi rfl h) ?_
        intro v w h
        refine L_as ?_
        refine L_nil ?_
        refine B_n ?_
        refine E_n ?_
        refine L_region ?_
        refine L_u (P_ad h) ?_
        intro v w h
        refine L_mv ?_
        refine L_nil ?_
        refine E_n ?_
        exact L4 _ _ h
      · refine C_exit ?_
        refine E_x ?_
        refine E_x ?_
        refine B_x ?_
        exact J3 _ _ h
    · unfold f27_j3 at h
      refine E_n ?_
      refine wp_seq ?_
      refine L_region ?_
      refine L_mv ?_
      refine L_as ?_
      refine L_nil ?_
      refine E_n ?_
      refine C_ret ?_
      show bodyPost Try.prog Try.f27 (Rt Q) .ret _ _
      exact post_tmps (ts := [2]) (.inr rfl) rfl h

/- factotum/relate.Join -/
def f10_b2 (j1 : Value → Value → Value → M) (self2 : Value → Value → Value → Value → Value → Value → Value → M) (t0_1 t2_1 t3_1 t10 t27 t28_1 t29 : Value) : M :=
  lt .i64 t29 t28_1 fun t30 =>
  cnd t30 (
    ia 1 t27 t29 fun t31 =>
    ld t31 fun t32 =>
    ia 3 t32 t3_1 fun t36 =>
    ldn 3 t36 fun t37 =>
    sm Try.prog (Instr.buildSlice 22 1 #[(0, t32)]) fun t40 =>
    sm Try.prog (Instr.mapEntry 48 t10 t37) fun t41 =>
    ex 0 t41 fun t38 =>
    sm Try.prog (Builtin.append_ #[22, 22] 22 #[t38, t40]) fun t42 =>
    ex 1 t41 fun t43 =>
    smu Try.prog (Instr.entryStore 48 t10 t43 t42) <|
    ad .i64 t29 (.int .i64 1) fun t44 =>
    self2 t0_1 t2_1 t3_1 t10 t27 t28_1 t44
    ) (
    j1 t0_1 t2_1 t10
    )
def f10_b6 (j5 : Value → Value → Value → Value → Value → Value → M) (self6 : Value → Value → Value → Value → Value → Value → Value → Value → Value → Value → M) (t2_4 t10_3 t13_1 t15 t45_1 t46_2 t47_1 t56_1 t57_1 t58 : Value) : M :=
  lt .i64 t58 t57_1 fun t59 =>
  cnd t59 (
    ia 1 t56_1 t58 fun t60 =>
    ld t60 fun t61 =>
    sm Try.prog (Instr.buildSlice 22 2 #[(0, t15), (1, t61)]) fun t65 =>
    cl (f27 t65) fun t66 =>
    sm Try.prog (Instr.buildSlice 22 1 #[(0, t66)]) fun t67 =>
    sm Try.prog (Builtin.append_ #[22, 22] 22 #[t13_1, t67]) fun t68 =>
    ad .i64 t58 (.int .i64 1) fun t69 =>
    self6 t2_4 t10_3 t68 t15 t45_1 t46_2 t47_1 t56_1 t57_1 t69
    ) (
    j5 t2_4 t10_3 t13_1 t45_1 t46_2 t47_1
    )
def f10_j5 (self4 : Value → Value → Value → Value → Value → Value → M) (t2_5 t10_4 t13_2 t45_2 t46_3 t47_2 : Value) : M :=
  ad .i64 t47_2 (.int .i64 1) fun t70 =>
  self4 t2_5 t10_4 t13_2 t45_2 t46_3 t70
def f10_b4 (j3 : Value → M) (self4 : Value → Value → Value → Value → Value → Value → M) (t2_3 t10_2 t13 t45 t46_1 t47 : Value) : M :=
  lt .i64 t47 t46_1 fun t48 =>
  cnd t48 (
    ia 1 t45 t47 fun t49 =>
    ld t49 fun t50 =>
    ia 3 t50 t2_3 fun t54 =>
    ldn 3 t54 fun t55 =>
    smr Try.prog (Instr.lookup 48 t10_2 t55 false) fun t56 =>
    lnl t56 fun t57 =>
    jn (fun (j5 : Value → Value → Value → Value → Value → Value → M) =>
      lo (fun _ _ _ _ _ _ _ _ _ _ => bot) (f10_b6 j5) (fun l => l t2_3 t10_2 t13 t50 t45 t46_1 t47 t56 t57 (.int .i64 0))
      ) (f10_j5 self4)
    ) (
    j3 t13
    )
def f10_j3 (t13_3 : Value) : M :=
  rt (.tuple #[t13_3, (.int .i64 0)])
def f10_j1 (t0_2 t2_2 t10_1 : Value) : M :=
  lnl t0_2 fun t46 =>
  jn (fun (j3 : Value → M) =>
    lo (fun _ _ _ _ _ _ => bot) (f10_b4 j3) (fun l => l t2_2 t10_1 (.slice none 0 0) t0_2 t46 (.int .i64 0))
    ) (f10_j3)
def f10 (t0 t1 t2 t3 : Value) : M :=
  cl (f26 t0 t2) fun t20 =>
  gd t20 false (idv t1) fun t22 =>
  gd t20 false (idv t3) fun t23 =>
  gd t20 false (cl (f26 t22 t23)) fun t24 =>
  pk t20 (.bool true) t24 fun t25 =>
  cnd t25 (
    rt (.tuple #[(.slice none 0 0), (.int .i64 7)])
    ) (
    mm fun t26 =>
    lnl t1 fun t28 =>
    jn (fun (j1 : Value → Value → Value → M) =>
      lo (fun _ _ _ _ _ _ _ => bot) (f10_b2 j1) (fun l => l t0 t2 t3 t26 t1 t28 (.int .i64 0))
      ) (f10_j1)
    )
theorem s10 (t0 t1 t2 t3 : Value) (w : World) (Q : Value → World → Prop) (h : f10 t0 t1 t2 t3 w Q) : Calls Try.prog 10 #[t0, t1, t2, t3] w (Rt Q) := by
  refine calls_of (l := [t0, t1, t2, t3]) Try.func10 rfl Try.ntmps10 (Nat.le_of_ble_eq_true rfl) ?_
  unfold f10 at h
  refine wp_seq ?_
  refine L_region ?_
  refine L_as ?_
  refine L_as ?_
  refine L_nil ?_
  refine E_n ?_
  refine wp_seq ?_
  refine wp_seq ?_
  refine L_region ?_
  refine L_mv ?_
  refine L_mv ?_
  refine L_u (N_cl Try.func26 rfl nn26 (fun w Q h => s26 _ _ w Q h) h) ?_
  intro v w h
  refine L_mv ?_
  refine L_g (t := 21) h rfl rfl (fun c h => P_mv h c) ?_
  intro v w h
  refine L_g (t := 21) h rfl rfl (fun c h => P_mv h c) ?_
  intro v w h
  refine L_g (t := 21) h rfl rfl (fun c h => N_cl Try.func26 rfl nn26 (fun w Q h => s26 _ _ w Q h) h c) ?_
  intro v w h
  refine L_u (P_pk h) ?_
  intro v w h
  refine L_nil ?_
  refine E_n ?_
  refine C_cnd h (fun h => ?_) (fun h => ?_)
  · refine wp_seq ?_
    refine L_region ?_
    refine L_as ?_
    refine L_as ?_
    refine L_nil ?_
    refine E_n ?_
    refine C_ret ?_
    show bodyPost Try.prog Try.f10 (Rt Q) .ret _ _
    exact post_tmps (ts := [8, 9]) (.inr rfl) rfl h
  · refine C_skip ?_
    refine E_n ?_
    refine wp_seq ?_
    refine L_region ?_
    refine L_u (P_mm h) ?_
    intro v w h
    refine L_as ?_
    refine L_nil ?_
    refine E_n ?_
    refine wp_seq ?_
    refine wp_seq ?_
    refine L_region ?_
    refine L_mv ?_
    refine L_u (P_lnl is22 h) ?_
    intro v w h
    refine L_mv ?_
    refine L_nil ?_
    refine E_n ?_
    refine C_join (fun (k : Value → Value → Value → M) (ρ : Nat → Value) => k (ρ 0) (ρ 2) (ρ 10)) h (fun j1 J1 h => ?_) (fun ρ w h => ?_)
    · refine C_blk ?_
      refine C_lo (fun (l : Value → Value → Value → Value → Value → Value → Value → M) (ρ : Nat → Value) => l (ρ 0) (ρ 2) (ρ 3) (ρ 10) (ρ 27) (ρ 28) (ρ 29)) h (fun ρ w h => h) (fun nx self2 L2 ρ w h => ?_)
      unfold f10_b2 at h
      refine wp_seq ?_
      refine L_region ?_
      refine L_u (P_lt h) ?_
      intro v w h
      refine L_nil ?_
      refine E_n ?_
      refine wp_seq ?_
      refine C_cnd h (fun h => ?_) (fun h => ?_)
      · refine C_skip ?_
        refine E_n ?_
        refine wp_seq ?_
        refine C_blk ?_
        refine wp_seq ?_
        refine L_region ?_
        refine L_u (P_ia se22 h) ?_
        intro v w h
        refine L_u (P_ld sc33 h) ?_
        intro v w h
        refine L_as ?_
        refine L_nil ?_
        refine E_n ?_
        refine L_region ?_
        refine L_mv ?_
        refine L_mv ?_
        refine L_mv ?_
        refine L_u (P_ia se33 h) ?_
        intro v w h
        refine L_u (P_ldn ag31 h) ?_
        intro v w h
        refine L_mv ?_
        refine L_u (N_bsl h) ?_
        intro v w h
        refine L_u (P_sm rfl h) ?_
        intro v w h
        refine L_u (P_ex h) ?_
        intro v w h
        refine L_u (N_bi rfl h) ?_
        intro v w h
        refine L_u (P_ex h) ?_
        intro v w h
        refine L_u (P_smu rfl h) ?_
        intro w h
        refine L_nil ?_
        refine B_n ?_
        refine E_n ?_
        refine L_region ?_
        refine L_u (P_ad h) ?_
        intro v w h
        refine L_mv ?_
        refine L_nil ?_
        refine E_n ?_
        exact L2 _ _ h
      · refine C_exit ?_
        refine E_x ?_
        refine E_x ?_
        refine B_x ?_
        exact J1 _ _ h
    · unfold f10_j1 at h
      refine E_n ?_
      refine wp_seq ?_
      refine L_region ?_
      refine L_as ?_
      refine L_nil ?_
      refine E_n ?_
      refine wp_seq ?_
      refine wp_seq ?_
      refine L_region ?_
      refine L_mv ?_
      refine L_u (P_lnl is22 h) ?_
      intro v w h
      refine L_mv ?_
      refine L_nil ?_
      refine E_n ?_
      refine C_join (fun (k : Value → M) (ρ : Nat → Value) => k (ρ 13)) h (fun j3 J3 h => ?_) (fun ρ w h => ?_)
      · refine C_blk ?_
        refine C_lo (fun (l : Value → Value → Value → Value → Value → Value → M) (ρ : Nat → Value) => l (ρ 2) (ρ 10) (ρ 13) (ρ 45) (ρ 46) (ρ 47)) h (fun ρ w h => h) (fun nx self4 L4 ρ w h => ?_)
        unfold f10_b4 at h
        refine wp_seq ?_
        refine L_region ?_
        refine L_u (P_lt h) ?_
        intro v w h
        refine L_nil ?_
        refine E_n ?_
        refine wp_seq ?_
        refine C_cnd h (fun h => ?_) (fun h => ?_)
        · refine C_skip ?_
          refine E_n ?_
          refine wp_seq ?_
          refine C_blk ?_
          refine wp_seq ?_
          refine L_region ?_
          refine L_u (P_ia se22 h) ?_
          intro v w h
          refine L_u (P_ld sc33 h) ?_
          intro v w h
          refine L_as ?_
          refine L_nil ?_
          refine E_n ?_
          refine wp_seq ?_
          refine L_region ?_
          refine L_mv ?_
          refine L_mv ?_
          refine L_mv ?_
          refine L_u (P_ia se33 h) ?_
          intro v w h
          refine L_u (P_ldn ag31 h) ?_
          intro v w h
          refine L_u (P_smr rfl h) ?_
          intro v w h
          refine L_u (P_lnl is22 h) ?_
          intro v w h
          refine L_mv ?_
          refine L_nil ?_
          refine E_n ?_
          refine C_join (fun (k : Value → Value → Value → Value → Value → Value → M) (ρ : Nat → Value) => k (ρ 2) (ρ 10) (ρ 13) (ρ 45) (ρ 46) (ρ 47)) h (fun j5 J5 h => ?_) (fun ρ w h => ?_)
          · refine C_blk ?_
            refine C_lo (fun (l : Value → Value → Value → Value → Value → Value → Value → Value → Value → Value → M) (ρ : Nat → Value) => l (ρ 2) (ρ 10) (ρ 13) (ρ 15) (ρ 45) (ρ 46) (ρ 47) (ρ 56) (ρ 57) (ρ 58)) h (fun ρ w h => h) (fun nx self6 L6 ρ w h => ?_)
            unfold f10_b6 at h
            refine wp_seq ?_
            refine L_region ?_
            refine L_u (P_lt h) ?_
            intro v w h
            refine L_nil ?_
            refine E_n ?_
            refine wp_seq ?_
            refine C_cnd h (fun h => ?_) (fun h => ?_)
            · refine C_skip ?_
              refine E_n ?_
              refine wp_seq ?_
              refine C_blk ?_
              refine wp_seq ?_
              refine L_region ?_
              refine L_u (P_ia se22 h) ?_
              intro v w h
              refine L_u (P_ld sc33 h) ?_
              intro v w h
              refine L_as ?_
              refine L_nil ?_
              refine E_n ?_
              refine L_region ?_
              refine L_mv ?_
              refine L_mv ?_
              refine L_mv ?_
              refine L_u (N_bsl h) ?_
              intro v w h
              refine L_u (N_cl Try.func27 rfl nn27 (fun w Q h => s27 _ w Q h) h) ?_
              intro v w h
              refine L_u (N_bsl h) ?_
              intro v w h
              refine L_u (N_bi rfl h) ?_
              intro v w h
              refine L_as ?_
              refine L_nil ?_
              refine B_n ?_
              refine E_n ?_
              refine L_region ?_
              refine L_u (P_ad h) ?_
              intro v w h
              refine L_mv ?_
              refine L_nil ?_
              refine E_n ?_
              exact L6 _ _ h
            · refine C_exit ?_
              refine E_x ?_
              refine E_x ?_
              refine B_x ?_
              exact J5 _ _ h
          · unfold f10_j5 at h
            refine B_n ?_
            refine E_n ?_
            refine L_region ?_
            refine L_u (P_ad h) ?_
            intro v w h
            refine L_mv ?_
            refine L_nil ?_
            refine E_n ?_
            exact L4 _ _ h
        · refine C_exit ?_
          refine E_x ?_
          refine E_x ?_
          refine B_x ?_
          exact J3 _ _ h
      · unfold f10_j3 at h
        refine E_n ?_
        refine wp_seq ?_
        refine L_region ?_
        refine L_mv ?_
        refine L_as ?_
        refine L_as ?_
        refine L_nil ?_
        refine E_n ?_
        refine C_ret ?_
        show bodyPost Try.prog Try.f10 (Rt Q) .ret _ _
        exact post_tmps (ts := [8, 9]) (.inr rfl) rfl h

/- slices.Equal[factotum/api.Row,factotum/api.Value] -/
def f47_b2 (j1 : M) (self2 : Value → Value → Value → Value → M) (t0_1 t1_1 t12_1 t13 : Value) : M :=
  lt .i64 t13 t12_1 fun t14 =>
  cnd t14 (
    dr <|
    idv t0_1 fun t16 =>
    idv t13 fun t17 =>
    ia 3 t16 t17 fun t18 =>
    ldn 3 t18 fun t19 =>
    idv t1_1 fun t20 =>
    idv t13 fun t21 =>
    ia 3 t20 t21 fun t22 =>
    ldn 3 t22 fun t23 =>
    smr Try.prog (do eqGuard .neq 31 (.tmp 19) (.tmp 23) t19 t23; binOp .neq 31 t19 t23) fun t24 =>
    cnd t24 (
      rt (.bool false)
      ) (
      ad .i64 t13 (.int .i64 1) fun t25 =>
      self2 t0_1 t1_1 t12_1 t25
      )
    ) (
    j1
    )
def f47_j1 : M :=
  rt (.bool true)
def f47 (t0 t1 : Value) : M :=
  lnl t0 fun t7 =>
  lnl t1 fun t9 =>
  nei .i64 t7 t9 fun t10 =>
  cnd t10 (
    rt (.bool false)
    ) (
    lnl t0 fun t12 =>
    jn (fun (j1 : M) =>
      lo (fun _ _ _ _ => bot) (f47_b2 j1) (fun l => l t0 t1 t12 (.int .i64 0))
      ) (f47_j1)
    )
theorem s47 (t0 t1 : Value) (w : World) (Q : Value → World → Prop) (h : f47 t0 t1 w Q) : Calls Try.prog 47 #[t0, t1] w (Rt Q) := by
  refine calls_of (l := [t0, t1]) Try.func47 rfl Try.ntmps47 (Nat.le_of_ble_eq_true rfl) ?_
  unfold f47 at h
  refine wp_seq ?_
  refine L_region ?_
  refine L_as ?_
  refine L_nil ?_
  refine E_n ?_
  refine wp_seq ?_
  refine wp_seq ?_
  refine L_region ?_
  refine L_mv ?_
  refine L_u (P_lnl is33 h) ?_
  intro v w h
  refine L_mv ?_
  refine L_u (P_lnl is33 h) ?_
  intro v w h
  refine L_u (P_nei h) ?_
  intro v w h
  refine L_nil ?_
  refine E_n ?_
  refine C_cnd h (fun h => ?_) (fun h => ?_)
  · refine wp_seq ?_
    refine L_region ?_
    refine L_as ?_
    refine L_nil ?_
    refine E_n ?_
    refine C_ret ?_
    show bodyPost Try.prog Try.f47 (Rt Q) .ret _ _
    exact post_tmps (ts := [4]) (.inr rfl) rfl h
  · refine C_skip ?_
    refine E_n ?_
    refine wp_seq ?_
    refine wp_seq ?_
    refine L_region ?_
    refine L_mv ?_
    refine L_u (P_lnl is33 h) ?_
    intro v w h
    refine L_mv ?_
    refine L_nil ?_
    refine E_n ?_
    refine C_join (fun (k : M) (ρ : Nat → Value) => k) h (fun j1 J1 h => ?_) (fun ρ w h => ?_)
    · refine C_blk ?_
      refine C_lo (fun (l : Value → Value → Value → Value → M) (ρ : Nat → Value) => l (ρ 0) (ρ 1) (ρ 12) (ρ 13)) h (fun ρ w h => h) (fun nx self2 L2 ρ w h => ?_)
      unfold f47_b2 at h
      refine wp_seq ?_
      refine L_region ?_
      refine L_u (P_lt h) ?_
      intro v w h
      refine L_nil ?_
      refine E_n ?_
      refine wp_seq ?_
      refine C_cnd h (fun h => ?_) (fun h => ?_)
      · refine C_skip ?_
        refine E_n ?_
        refine wp_seq ?_
        refine C_blk ?_
        refine wp_seq ?_
        refine L_region ?_
        refine L_mv ?_
        refine L_as ?_
        refine L_nil ?_
        refine E_n ?_
        refine wp_seq ?_
        refine D_region (by decide +kernel) 9 rfl ?_
        replace h := dr_e h
        refine G_p 0 rfl (by decide +kernel) (Y_mv h) ?_
        intro v h
        refine G_p 1 rfl (by decide +kernel) (Y_mv h) ?_
        intro v h
        refine G_p 2 rfl (by decide +kernel) (Y_ia se33 h) ?_
        intro v h
        refine G_r _ 3 rfl (by decide +kernel) (R_ldn ag31 h) ?_
        intro v h
        refine G_p 4 rfl (by decide +kernel) (Y_mv h) ?_
        intro v h
        refine G_p 5 rfl (by decide +kernel) (Y_mv h) ?_
        intro v h
        refine G_p 6 rfl (by decide +kernel) (Y_ia se33 h) ?_
        intro v h
        refine G_r _ 7 rfl (by decide +kernel) (R_ldn ag31 h) ?_
        intro v h
        refine G_r _ 8 rfl (by decide +kernel) (R_sm rfl h) ?_
        intro v h
        refine G_done (by decide +kernel) ?_
        refine E_n ?_
        refine C_cnd h (fun h => ?_) (fun h => ?_)
        · refine wp_seq ?_
          refine L_region ?_
          refine L_as ?_
          refine L_nil ?_
          refine E_n ?_
          refine C_ret ?_
          show bodyPost Try.prog Try.f47 (Rt Q) .ret _ _
          exact post_tmps (ts := [4]) (.inr rfl) rfl h
        · refine C_skip ?_
          refine B_n ?_
          refine E_n ?_
          refine L_region ?_
          refine L_u (P_ad h) ?_
          intro v w h
          refine L_mv ?_
          refine L_nil ?_
          refine E_n ?_
          exact L2 _ _ h
      · refine C_exit ?_
        refine E_x ?_
        refine E_x ?_
        refine B_x ?_
        exact J1 _ _ h
    · unfold f47_j1 at h
      refine E_n ?_
      refine wp_seq ?_
      refine L_region ?_
      refine L_as ?_
      refine L_nil ?_
      refine E_n ?_
      refine C_ret ?_
      show bodyPost Try.prog Try.f47 (Rt Q) .ret _ _
      exact post_tmps (ts := [4]) (.inr rfl) rfl h

/- factotum/relate.has$1 -/
def f46 (t0 t1 : Value) : M :=
  ld t1 fun t4 =>
  cl (f47 t4 t0) fun t6 =>
  rt t6
theorem s46 (t0 t1 : Value) (w : World) (Q : Value → World → Prop) (h : f46 t0 t1 w Q) : Calls Try.prog 46 #[t0, t1] w (Rt Q) := by
  refine calls_of (l := [t0, t1]) Try.func46 rfl Try.ntmps46 (Nat.le_of_ble_eq_true rfl) ?_
  unfold f46 at h
  refine wp_seq ?_
  refine L_region ?_
  refine L_as ?_
  refine L_nil ?_
  refine E_n ?_
  refine wp_seq ?_
  refine L_region ?_
  refine L_u (P_ld sc33 h) ?_
  intro v w h
  refine L_mv ?_
  refine L_u (N_cl Try.func47 rfl nn47 (fun w Q h => s47 _ _ w Q h) h) ?_
  intro v w h
  refine L_as ?_
  refine L_nil ?_
  refine E_n ?_
  refine C_ret ?_
  show bodyPost Try.prog Try.f46 (Rt Q) .ret _ _
  exact post_tmps (ts := [3]) (.inr rfl) rfl h

/- factotum/relate.has -/
def f29 (t0 t1 : Value) : M :=
  bx 33 t1 fun t3 =>
  idv (.func (.func 46) #[] #[t3]) fun t6 =>
  cl (f43 t0 t6) fun t7 =>
  rt t7
theorem s29 (t0 t1 : Value) (w : World) (Q : Value → World → Prop) (h : f29 t0 t1 w Q) : Calls Try.prog 29 #[t0, t1] w (Rt Q) := by
  refine calls_of (l := [t0, t1]) Try.func29 rfl Try.ntmps29 (Nat.le_of_ble_eq_true rfl) ?_
  unfold f29 at h
  refine wp_seq ?_
  refine L_region ?_
  refine L_u (P_bx h) ?_
  intro v w h
  refine L_as ?_
  refine L_nil ?_
  refine E_n ?_
  refine wp_seq ?_
  refine L_region ?_
  refine L_mv ?_
  refine L_u (N_mf h) ?_
  intro v w h
  refine L_u (N_cl Try.func43 rfl nn43 (fun w Q h => s43 _ _ w Q h) h) ?_
  intro v w h
  refine L_as ?_
  refine L_nil ?_
  refine E_n ?_
  refine C_ret ?_
  show bodyPost Try.prog Try.f29 (Rt Q) .ret _ _
  exact post_tmps (ts := [4]) (.inr rfl) rfl h

/- slices.Clone[factotum/api.Row,factotum/api.Value] -/
def f30 (t0 : Value) : M :=
  smr Try.prog (do eqGuard .eql 33 (.tmp 3) (.const (.slice none 0 0)) t0 (.slice none 0 0); binOp .eql 33 t0 (.slice none 0 0)) fun t4 =>
  cnd t4 (
    rt (.slice none 0 0)
    ) (
    sm Try.prog (Instr.buildSlice 33 0 #[]) fun t5 =>
    sm Try.prog (Builtin.append_ #[33, 33] 33 #[t5, t0]) fun t7 =>
    rt t7
    )
theorem s30 (t0 : Value) (w : World) (Q : Value → World → Prop) (h : f30 t0 w Q) : Calls Try.prog 30 #[t0] w (Rt Q) := by
  refine calls_of (l := [t0]) Try.func30 rfl Try.ntmps30 (Nat.le_of_ble_eq_true rfl) ?_
  unfold f30 at h
  refine wp_seq ?_
  refine L_region ?_
  refine L_as ?_
  refine L_nil ?_
  refine E_n ?_
  refine wp_seq ?_
  refine wp_seq ?_
  refine L_region ?_
  refine L_mv ?_
  refine L_u (P_smr rfl h) ?_
  intro v w h
  refine L_nil ?_
  refine E_n ?_
  refine C_cnd h (fun h => ?_) (fun h => ?_)
  · refine wp_seq ?_
    refine L_region ?_
    refine L_as ?_
    refine L_nil ?_
    refine E_n ?_
    refine C_ret ?_
    show bodyPost Try.prog Try.f30 (Rt Q) .ret _ _
    exact post_tmps (ts := [2]) (.inr rfl) rfl h
  · refine C_skip ?_
    refine E_n ?_
    refine wp_seq ?_
    refine L_region ?_
    refine L_u (N_bsl h) ?_
    intro v w h
    refine L_mv ?_
    refine L_u (N_bi rfl h) ?_
    intro v w h
    refine L_as ?_
    refine L_nil ?_
    refine E_n ?_
    refine C_ret ?_
    show bodyPost Try.prog Try.f30 (Rt Q) .ret _ _
    exact post_tmps (ts := [2]) (.inr rfl) rfl h

/- factotum/relate.Once -/
def f14_j3 (self2 : Value → Value → Value → Value → M) (t3_1 t6_1 t7_2 t8_1 : Value) : M :=
  ad .i64 t8_1 (.int .i64 1) fun t21 =>
  self2 t3_1 t6_1 t7_2 t21
def f14_b2 (j1 : Value → M) (self2 : Value → Value → Value → Value → M) (t3 t6 t7_1 t8 : Value) : M :=
  lt .i64 t8 t7_1 fun t9 =>
  cnd t9 (
    ia 1 t6 t8 fun t10 =>
    ld t10 fun t11 =>
    cl (f29 t3 t11) fun t14 =>
    nt t14 fun t15 =>
    jn (fun (j3 : Value → Value → Value → Value → M) =>
      cnd t15 (
        cl (f30 t11) fun t18 =>
        sm Try.prog (Instr.buildSlice 22 1 #[(0, t18)]) fun t19 =>
        sm Try.prog (Builtin.append_ #[22, 22] 22 #[t3, t19]) fun t20 =>
        j3 t20 t6 t7_1 t8
        ) (
        j3 t3 t6 t7_1 t8
        )
      ) (f14_j3 self2)
    ) (
    j1 t3
    )
def f14_j1 (t3_2 : Value) : M :=
  rt t3_2
def f14 (t0 : Value) : M :=
  lnl t0 fun t7 =>
  jn (fun (j1 : Value → M) =>
    lo (fun _ _ _ _ => bot) (f14_b2 j1) (fun l => l (.slice none 0 0) t0 t7 (.int .i64 0))
    ) (f14_j1)
theorem s14 (t0 : Value) (w : World) (Q : Value → World → Prop) (h : f14 t0 w Q) : Calls Try.prog 14 #[t0] w (Rt Q) := by
  refine calls_of (l := [t0]) Try.func14 rfl Try.ntmps14 (Nat.le_of_ble_eq_true rfl) ?_
  unfold f14 at h
  refine wp_seq ?_
  refine L_region ?_
  refine L_as ?_
  refine L_nil ?_
  refine E_n ?_
  refine wp_seq ?_
  refine L_region ?_
  refine L_as ?_
  refine L_nil ?_
  refine E_n ?_
  refine wp_seq ?_
  refine wp_seq ?_
  refine L_region ?_
  refine L_mv ?_
  refine L_u (P_lnl is22 h) ?_
  intro v w h
  refine L_mv ?_
  refine L_nil ?_
  refine E_n ?_
  refine C_join (fun (k : Value → M) (ρ : Nat → Value) => k (ρ 3)) h (fun j1 J1 h => ?_) (fun ρ w h => ?_)
  · refine C_blk ?_
    refine C_lo (fun (l : Value → Value → Value → Value → M) (ρ : Nat → Value) => l (ρ 3) (ρ 6) (ρ 7) (ρ 8)) h (fun ρ w h => h) (fun nx self2 L2 ρ w h => ?_)
    unfold f14_b2 at h
    refine wp_seq ?_
    refine L_region ?_
    refine L_u (P_lt h) ?_
    intro v w h
    refine L_nil ?_
    refine E_n ?_
    refine wp_seq ?_
    refine C_cnd h (fun h => ?_) (fun h => ?_)
    · refine C_skip ?_
      refine E_n ?_
      refine wp_seq ?_
      refine C_blk ?_
      refine wp_seq ?_
      refine L_region ?_
      refine L_u (P_ia se22 h) ?_
      intro v w h
      refine L_u (P_ld sc33 h) ?_
      intro v w h
      refine L_as ?_
      refine L_nil ?_
      refine E_n ?_
      refine wp_seq ?_
      refine L_region ?_
      refine L_mv ?_
      refine L_mv ?_
      refine L_u (N_cl Try.func29 rfl nn29 (fun w Q h => s29 _ _ w Q h) h) ?_
      intro v w h
      refine L_u (P_nt h) ?_
      intro v w h
      refine L_nil ?_
      refine E_n ?_
      refine C_join (fun (k : Value → Value → Value → Value → M) (ρ : Nat → Value) => k (ρ 3) (ρ 6) (ρ 7) (ρ 8)) h (fun j3 J3 h => ?_) (fun ρ w h => ?_)
      · refine C_cnd h (fun h => ?_) (fun h => ?_)
        · refine L_region ?_
          refine L_mv ?_
          refine L_mv ?_
          refine L_u (N_cl Try.func30 rfl nn30 (fun w Q h => s30 _ w Q h) h) ?_
          intro v w h
          refine L_u (N_bsl h) ?_
          intro v w h
          refine L_u (N_bi rfl h) ?_
          intro v w h
          refine L_as ?_
          refine L_nil ?_
          exact J3 _ _ h
        · refine C_skip ?_
          exact J3 _ _ h
      · unfold f14_j3 at h
        refine B_n ?_
        refine E_n ?_
        refine L_region ?_
        refine L_u (P_ad h) ?_
        intro v w h
        refine L_mv ?_
        refine L_nil ?_
        refine E_n ?_
        exact L2 _ _ h
    · refine C_exit ?_
      refine E_x ?_
      refine E_x ?_
      refine B_x ?_
      exact J1 _ _ h
  · unfold f14_j1 at h
    refine E_n ?_
    refine wp_seq ?_
    refine L_region ?_
    refine L_mv ?_
    refine L_as ?_
    refine L_nil ?_
    refine E_n ?_
    refine C_ret ?_
    show bodyPost Try.prog Try.f14 (Rt Q) .ret _ _
    exact post_tmps (ts := [2]) (.inr rfl) rfl h

/- factotum/factotumlaw31.num -/
def f25 (t0 : Value) : M :=
  al 31 #[(.int .i64 0), (.int .i64 0), (.string ⟨#[]⟩)] fun t2 =>
  smr Try.prog (Instr.build 31 #[(0, (.int .i64 1)), (1, t0)]) fun t4 =>
  stn 3 t2 t4 <|
  ldn 3 t2 fun r0 =>
  rt r0
theorem s25 (t0 : Value) (w : World) (Q : Value → World → Prop) (h : f25 t0 w Q) : Calls Try.prog 25 #[t0] w (Rt Q) := by
  refine calls_of (l := [t0]) Try.func25 rfl Try.ntmps25 (Nat.le_of_ble_eq_true rfl) ?_
  unfold f25 at h
  refine wp_seq ?_
  refine L_region ?_
  refine L_u (P_al ze31 rfl h) ?_
  intro v w h
  refine L_nil ?_
  refine E_n ?_
  refine wp_seq ?_
  refine L_region ?_
  refine L_mv ?_
  refine L_u (N_bld h) ?_
  intro v w h
  refine L_u (P_stn ag31 h) ?_
  intro w h
  refine L_nil ?_
  refine E_n ?_
  refine C_ret ?_
  show bodyPost Try.prog Try.f25 (Rt Q) .ret _ _
  refine post_res [.cell 2 31] (.inr rfl) rfl ?_
  refine res_ldn 2 31 ag31 (by exact h) (fun _ hr0 h => ?_)
  exact ⟨[_], ⟨hr0, trivial⟩, h⟩

/- factotum/factotumlaw31.lives -/
def f8 : M :=
  cl (f25 (.int .i64 1)) fun t4 =>
  sm Try.prog (Instr.buildSlice 33 1 #[(0, t4)]) fun t5 =>
  cl (f25 (.int .i64 2)) fun t6 =>
  sm Try.prog (Instr.buildSlice 33 1 #[(0, t6)]) fun t7 =>
  sm Try.prog (Instr.buildSlice 22 2 #[(0, t5), (1, t7)]) fun t8 =>
  cl (f25 (.int .i64 2)) fun t9 =>
  cl (f25 (.int .i64 7)) fun t10 =>
  sm Try.prog (Instr.buildSlice 33 2 #[(0, t9), (1, t10)]) fun t11 =>
  cl (f25 (.int .i64 2)) fun t12 =>
  cl (f25 (.int .i64 8)) fun t13 =>
  sm Try.prog (Instr.buildSlice 33 2 #[(0, t12), (1, t13)]) fun t14 =>
  sm Try.prog (Instr.buildSlice 22 2 #[(0, t11), (1, t14)]) fun t15 =>
  cl (f10 t8 t15 (.int .i64 0) (.int .i64 0)) fun t16 =>
  ex 0 t16 fun t17 =>
  ex 1 t16 fun t18 =>
  dr <|
  idv t18 fun t19 =>
  eqi .i64 t19 (.int .i64 0) fun t20 =>
  idv t20 fun t21 =>
  gd t21 true (idv t17) fun t22 =>
  gd t21 true (lnl t22) fun t23 =>
  gd t21 true (eqi .i64 t23 (.int .i64 2)) fun t24 =>
  pk t21 t24 (.bool false) fun t25 =>
  idv t25 fun t26 =>
  gd t26 true (idv t17) fun t27 =>
  gd t26 true (ia 1 t27 (.int .i64 1)) fun t28 =>
  gd t26 true (ld t28) fun t29 =>
  gd t26 true (lnl t29) fun t30 =>
  gd t26 true (eqi .i64 t30 (.int .i64 3)) fun t31 =>
  pk t26 t31 (.bool false) fun t32 =>
  idv t32 fun t33 =>
  gd t33 true (idv t17) fun t34 =>
  gd t33 true (ia 1 t34 (.int .i64 1)) fun t35 =>
  gd t33 true (ld t35) fun t36 =>
  gd t33 true (ia 3 t36 (.int .i64 2)) fun t37 =>
  gd t33 true (ldn 3 t37) fun t38 =>
  gd t33 true (cl (f25 (.int .i64 8))) fun t39 =>
  kp (fun w => gdB t33 true = true → Kldn 3 t37 t38 w) <|
  kp (fun w => gdB t33 true = true → Kld t35 t36 w) <|
  gd t33 true (smr Try.prog (do eqGuard .eql 31 (.tmp 38) (.tmp 39) t38 t39; binOp .eql 31 t38 t39)) fun t40 =>
  pk t33 t40 (.bool false) fun t41 =>
  idv t41 fun t42 =>
  gd t42 true (cl (f25 (.int .i64 1))) fun t43 =>
  amb (
    gd t42 true (sm Try.prog (Instr.buildSlice 33 1 #[(0, t43)])) fun t44 =>
    gd t42 true (cl (f25 (.int .i64 1))) fun t45_1 =>
    gd t42 true (sm Try.prog (Instr.buildSlice 33 1 #[(0, t45_1)])) fun t46 =>
    gd t42 true (sm Try.prog (Instr.buildSlice 22 2 #[(0, t44), (1, t46)])) fun t47 =>
    gd t42 true (cl (f14 t47)) fun t48 =>
    gd t42 true (lnl t48) fun t49 =>
    gd t42 true (eqi .i64 t49 (.int .i64 1)) fun t50 =>
    pk t42 t50 (.bool false) fun t51 =>
    idv t51 fun t0 =>
    rt t0
    ) (
    gd t42 true (cl (f25 (.int .i64 1))) fun t45 =>
    amb (
      gd t42 true (sm Try.prog (Instr.buildSlice 33 1 #[(0, t43)])) fun t44_1 =>
      gd t42 true (sm Try.prog (Instr.buildSlice 33 1 #[(0, t45)])) fun t46_2 =>
      gd t42 true (sm Try.prog (Instr.buildSlice 22 2 #[(0, t44_1), (1, t46_2)])) fun t47_1 =>
      gd t42 true (cl (f14 t47_1)) fun t48_1 =>
      gd t42 true (lnl t48_1) fun t49_1 =>
      gd t42 true (eqi .i64 t49_1 (.int .i64 1)) fun t50_1 =>
      pk t42 t50_1 (.bool false) fun t51_1 =>
      idv t51_1 fun t0_1 =>
      rt t0_1
      ) (
      gd t42 true (sm Try.prog (Instr.buildSlice 33 1 #[(0, t45)])) fun t46_1 =>
      gd t42 true (sm Try.prog (Instr.buildSlice 33 1 #[(0, t43)])) fun t44_2 =>
      gd t42 true (sm Try.prog (Instr.buildSlice 22 2 #[(0, t44_2), (1, t46_1)])) fun t47_2 =>
      gd t42 true (cl (f14 t47_2)) fun t48_2 =>
      gd t42 true (lnl t48_2) fun t49_2 =>
      gd t42 true (eqi .i64 t49_2 (.int .i64 1)) fun t50_2 =>
      pk t42 t50_2 (.bool false) fun t51_2 =>
      idv t51_2 fun t0_2 =>
      rt t0_2
      )
    )
theorem s8 (w : World) (Q : Value → World → Prop) (h : f8 w Q) : Calls Try.prog 8 #[] w (Rt Q) := by
  refine calls_of (l := []) Try.func8 rfl Try.ntmps8 (Nat.le_of_ble_eq_true rfl) ?_
  unfold f8 at h
  refine wp_seq ?_
  refine L_region ?_
  refine L_as ?_
  refine L_nil ?_
  refine E_n ?_
  refine wp_seq ?_
  refine L_region ?_
  refine L_u (N_cl Try.func25 rfl nn25 (fun w Q h => s25 _ w Q h) h) ?_
  intro v w h
  refine L_u (N_bsl h) ?_
  intro v w h
  refine L_u (N_cl Try.func25 rfl nn25 (fun w Q h => s25 _ w Q h) h) ?_
  intro v w h
  refine L_u (N_bsl h) ?_
  intro v w h
  refine L_u (N_bsl h) ?_
  intro v w h
  refine L_u (N_cl Try.func25 rfl nn25 (fun w Q h => s25 _ w Q h) h) ?_
  intro v w h
  refine L_u (N_cl Try.func25 rfl nn25 (fun w Q h => s25 _ w Q h) h) ?_
  intro v w h
  refine L_u (N_bsl h) ?_
  intro v w h
  refine L_u (N_cl Try.func25 rfl nn25 (fun w Q h => s25 _ w Q h) h) ?_
  intro v w h
  refine L_u (N_cl Try.func25 rfl nn25 (fun w Q h => s25 _ w Q h) h) ?_
  intro v w h
  refine L_u (N_bsl h) ?_
  intro v w h
  refine L_u (N_bsl h) ?_
  intro v w h
  refine L_u (N_cl Try.func10 rfl nn10 (fun w Q h => s10 _ _ _ _ w Q h) h) ?_
  intro v w h
  refine L_mv ?_
  refine L_u (P_ex h) ?_
  intro v w h
  refine L_u (P_ex h) ?_
  intro v w h
  refine L_as ?_
  refine L_as ?_
  refine L_nil ?_
  refine E_n ?_
  refine wp_seq ?_
  refine D_region (by decide +kernel) 34 rfl ?_
  replace h := dr_e h
  refine G_p 0 rfl (by decide +kernel) (Y_mv h) ?_
  intro v h
  refine G_p 1 rfl (by decide +kernel) (Y_eqi h) ?_
  intro v h
  refine G_p 2 rfl (by decide +kernel) (Y_mv h) ?_
  intro v h
  refine G_pg (t := 21) 3 rfl (by decide +kernel) h rfl rfl (fun h => Y_mv h) ?_
  intro v h
  refine G_pg (t := 21) 4 rfl (by decide +kernel) h rfl rfl (fun h => Y_lnl is22 h) ?_
  intro v h
  refine G_pg (t := 21) 5 rfl (by decide +kernel) h rfl rfl (fun h => Y_eqi h) ?_
  intro v h
  refine G_p 6 rfl (by decide +kernel) (Y_pk h) ?_
  intro v h
  refine G_p 7 rfl (by decide +kernel) (Y_mv h) ?_
  intro v h
  refine G_pg (t := 26) 8 rfl (by decide +kernel) h rfl rfl (fun h => Y_mv h) ?_
  intro v h
  refine G_pg (t := 26) 9 rfl (by decide +kernel) h rfl rfl (fun h => Y_ia se22 h) ?_
  intro v h
  refine G_rg (t := 26) _ 10 rfl (by decide +kernel) h rfl rfl (fun h => R_ld sc33 h) ?_
  intro v h
  refine G_pg (t := 26) 11 rfl (by decide +kernel) h rfl rfl (fun h => Y_lnl is33 h) ?_
  intro v h
  refine G_pg (t := 26) 12 rfl (by decide +kernel) h rfl rfl (fun h => Y_eqi h) ?_
  intro v h
  refine G_p 13 rfl (by decide +kernel) (Y_pk h) ?_
  intro v h
  refine G_p 14 rfl (by decide +kernel) (Y_mv h) ?_
  intro v h
  refine G_pg (t := 33) 15 rfl (by decide +kernel) h rfl rfl (fun h => Y_mv h) ?_
  intro v h
  refine G_pg (t := 33) 16 rfl (by decide +kernel) h rfl rfl (fun h => Y_ia se22 h) ?_
  intro v h
  refine G_rg (t := 33) _ 17 rfl (by decide +kernel) h rfl rfl (fun h => R_ld sc33 h) ?_
  intro v h
  refine G_pg (t := 33) 18 rfl (by decide +kernel) h rfl rfl (fun h => Y_ia se33 h) ?_
  intro v h
  refine G_rg (t := 33) _ 19 rfl (by decide +kernel) h rfl rfl (fun h => R_ldn ag31 h) ?_
  intro v h
  refine G_eg (t := 33) 20 rfl (by decide +kernel) h rfl rfl (fun c h => N_cl Try.func25 rfl nn25 (fun w Q h => s25 _ w Q h) h c) ?_
  intro v w h
  refine ⟨keepF_cons (kp_1 h) (keepF_cons (kp_1 (kp_2 h)) (keepF_dep [14, 13, 12, 11, 10] (by decide +kernel) rfl keepF_nil)), ?_⟩
  replace h := (kp_2 (kp_2 h))
  refine G_rg (t := 33) _ 21 rfl (by decide +kernel) h rfl rfl (fun h => R_sm rfl h) ?_
  intro v h
  refine G_p 22 rfl (by decide +kernel) (Y_pk h) ?_
  intro v h
  refine G_p 23 rfl (by decide +kernel) (Y_mv h) ?_
  intro v h
  refine G_eg (t := 42) 24 rfl (by decide +kernel) h rfl rfl (fun c h => N_cl Try.func25 rfl nn25 (fun w Q h => s25 _ w Q h) h c) ?_
  intro v w h
  refine ⟨keepF_dep [23, 22, 21] (by decide +kernel) rfl (keepF_dep [23, 22, 21, 19] (by decide +kernel) rfl (keepF_dep [23, 22, 21, 19, 18, 17] (by decide +kernel) rfl (keepF_dep [23, 22, 14, 13, 12, 11, 10] (by decide +kernel) rfl keepF_nil))), ?_⟩
  refine G_two (i := 25) (j := 26) (by decide +kernel) (G_opg (t := 42) rfl (amb_1 h) rfl rfl (fun c h => N_bsl h c) ?_) (G_opg (t := 42) rfl (amb_2 h) rfl rfl (fun c h => N_cl Try.func25 rfl nn25 (fun w Q h => s25 _ w Q h) h c) ?_)
  · intro v w h
    refine ⟨keepF_dep [23, 22, 21] (by decide +kernel) rfl (keepF_dep [23, 22, 21, 19] (by decide +kernel) rfl (keepF_dep [23, 22, 21, 19, 18, 17] (by decide +kernel) rfl (keepF_dep [23, 22, 14, 13, 12, 11, 10] (by decide +kernel) rfl keepF_nil))), ?_⟩
    refine G_eg (t := 42) 26 rfl (by decide +kernel) h rfl rfl (fun c h => N_cl Try.func25 rfl nn25 (fun w Q h => s25 _ w Q h) h c) ?_
    intro v w h
    refine ⟨keepF_dep [23, 22, 21] (by decide +kernel) rfl (keepF_dep [23, 22, 21, 19] (by decide +kernel) rfl (keepF_dep [23, 22, 21, 19, 18, 17] (by decide +kernel) rfl (keepF_dep [23, 22, 14, 13, 12, 11, 10] (by decide +kernel) rfl keepF_nil))), ?_⟩
    refine G_eg (t := 42) 27 rfl (by decide +kernel) h rfl rfl (fun c h => N_bsl h c) ?_
    intro v w h
    refine ⟨keepF_dep [23, 22, 21] (by decide +kernel) rfl (keepF_dep [23, 22, 21, 19] (by decide +kernel) rfl (keepF_dep [23, 22, 21, 19, 18, 17] (by decide +kernel) rfl (keepF_dep [23, 22, 14, 13, 12, 11, 10] (by decide +kernel) rfl keepF_nil))), ?_⟩
    refine G_eg (t := 42) 28 rfl (by decide +kernel) h rfl rfl (fun c h => N_bsl h c) ?_
    intro v w h
    refine ⟨keepF_dep [23, 22, 21] (by decide +kernel) rfl (keepF_dep [23, 22, 21, 19] (by decide +kernel) rfl (keepF_dep [23, 22, 21, 19, 18, 17] (by decide +kernel) rfl (keepF_dep [23, 22, 14, 13, 12, 11, 10] (by decide +kernel) rfl keepF_nil))), ?_⟩
    refine G_eg (t := 42) 29 rfl (by decide +kernel) h rfl rfl (fun c h => N_cl Try.func14 rfl nn14 (fun w Q h => s14 _ w Q h) h c) ?_
    intro v w h
    refine ⟨keepF_dep [23, 22, 21] (by decide +kernel) rfl (keepF_dep [23, 22, 21, 19] (by decide +kernel) rfl (keepF_dep [23, 22, 21, 19, 18, 17] (by decide +kernel) rfl (keepF_dep [23, 22, 14, 13, 12, 11, 10] (by decide +kernel) rfl keepF_nil))), ?_⟩
    refine G_pg (t := 42) 30 rfl (by decide +kernel) h rfl rfl (fun h => Y_lnl is22 h) ?_
    intro v h
    refine G_pg (t := 42) 31 rfl (by decide +kernel) h rfl rfl (fun h => Y_eqi h) ?_
    intro v h
    refine G_p 32 rfl (by decide +kernel) (Y_pk h) ?_
    intro v h
    refine G_p 33 rfl (by decide +kernel) (Y_as h) ?_
    intro v h
    refine G_done (by decide +kernel) ?_
    refine E_n ?_
    refine C_ret ?_
    show bodyPost Try.prog Try.f8 (Rt Q) .ret _ _
    exact post_tmps (ts := [0]) (.inr rfl) rfl h
  · intro v w h
    refine ⟨keepF_dep [23, 22, 21] (by decide +kernel) rfl (keepF_dep [23, 22, 21, 19] (by decide +kernel) rfl (keepF_dep [23, 22, 21, 19, 18, 17] (by decide +kernel) rfl (keepF_dep [23, 22, 14, 13, 12, 11, 10] (by decide +kernel) rfl keepF_nil))), ?_⟩
    refine G_two (i := 25) (j := 27) (by decide +kernel) (G_opg (t := 42) rfl (amb_1 h) rfl rfl (fun c h => N_bsl h c) ?_) (G_opg (t := 42) rfl (amb_2 h) rfl rfl (fun c h => N_bsl h c) ?_)
    · intro v w h
      refine ⟨keepF_dep [23, 22, 21] (by decide +kernel) rfl (keepF_dep [23, 22, 21, 19] (by decide +kernel) rfl (keepF_dep [23, 22, 21, 19, 18, 17] (by decide +kernel) rfl (keepF_dep [23, 22, 14, 13, 12, 11, 10] (by decide +kernel) rfl keepF_nil))), ?_⟩
      refine G_eg (t := 42) 27 rfl (by decide +kernel) h rfl rfl (fun c h => N_bsl h c) ?_
      intro v w h
      refine ⟨keepF_dep [23, 22, 21] (by decide +kernel) rfl (keepF_dep [23, 22, 21, 19] (by decide +kernel) rfl (keepF_dep [23, 22, 21, 19, 18, 17] (by decide +kernel) rfl (keepF_dep [23, 22, 14, 13, 12, 11, 10] (by decide +kernel) rfl keepF_nil))), ?_⟩
      refine G_eg (t := 42) 28 rfl (by decide +kernel) h rfl rfl (fun c h => N_bsl h c) ?_
      intro v w h
      refine ⟨keepF_dep [23, 22, 21] (by decide +kernel) rfl (keepF_dep [23, 22, 21, 19] (by decide +kernel) rfl (keepF_dep [23, 22, 21, 19, 18, 17] (by decide +kernel) rfl (keepF_dep [23, 22, 14, 13, 12, 11, 10] (by decide +kernel) rfl keepF_nil))), ?_⟩
      refine G_eg (t := 42) 29 rfl (by decide +kernel) h rfl rfl (fun c h => N_cl Try.func14 rfl nn14 (fun w Q h => s14 _ w Q h) h c) ?_
      intro v w h
      refine ⟨keepF_dep [23, 22, 21] (by decide +kernel) rfl (keepF_dep [23, 22, 21, 19] (by decide +kernel) rfl (keepF_dep [23, 22, 21, 19, 18, 17] (by decide +kernel) rfl (keepF_dep [23, 22, 14, 13, 12, 11, 10] (by decide +kernel) rfl keepF_nil))), ?_⟩
      refine G_pg (t := 42) 30 rfl (by decide +kernel) h rfl rfl (fun h => Y_lnl is22 h) ?_
      intro v h
      refine G_pg (t := 42) 31 rfl (by decide +kernel) h rfl rfl (fun h => Y_eqi h) ?_
      intro v h
      refine G_p 32 rfl (by decide +kernel) (Y_pk h) ?_
      intro v h
      refine G_p 33 rfl (by decide +kernel) (Y_as h) ?_
      intro v h
      refine G_done (by decide +kernel) ?_
      refine E_n ?_
      refine C_ret ?_
      show bodyPost Try.prog Try.f8 (Rt Q) .ret _ _
      exact post_tmps (ts := [0]) (.inr rfl) rfl h
    · intro v w h
      refine ⟨keepF_dep [23, 22, 21] (by decide +kernel) rfl (keepF_dep [23, 22, 21, 19] (by decide +kernel) rfl (keepF_dep [23, 22, 21, 19, 18, 17] (by decide +kernel) rfl (keepF_dep [23, 22, 14, 13, 12, 11, 10] (by decide +kernel) rfl keepF_nil))), ?_⟩
      refine G_eg (t := 42) 25 rfl (by decide +kernel) h rfl rfl (fun c h => N_bsl h c) ?_
      intro v w h
      refine ⟨keepF_dep [23, 22, 21] (by decide +kernel) rfl (keepF_dep [23, 22, 21, 19] (by decide +kernel) rfl (keepF_dep [23, 22, 21, 19, 18, 17] (by decide +kernel) rfl (keepF_dep [23, 22, 14, 13, 12, 11, 10] (by decide +kernel) rfl keepF_nil))), ?_⟩
      refine G_eg (t := 42) 28 rfl (by decide +kernel) h rfl rfl (fun c h => N_bsl h c) ?_
      intro v w h
      refine ⟨keepF_dep [23, 22, 21] (by decide +kernel) rfl (keepF_dep [23, 22, 21, 19] (by decide +kernel) rfl (keepF_dep [23, 22, 21, 19, 18, 17] (by decide +kernel) rfl (keepF_dep [23, 22, 14, 13, 12, 11, 10] (by decide +kernel) rfl keepF_nil))), ?_⟩
      refine G_eg (t := 42) 29 rfl (by decide +kernel) h rfl rfl (fun c h => N_cl Try.func14 rfl nn14 (fun w Q h => s14 _ w Q h) h c) ?_
      intro v w h
      refine ⟨keepF_dep [23, 22, 21] (by decide +kernel) rfl (keepF_dep [23, 22, 21, 19] (by decide +kernel) rfl (keepF_dep [23, 22, 21, 19, 18, 17] (by decide +kernel) rfl (keepF_dep [23, 22, 14, 13, 12, 11, 10] (by decide +kernel) rfl keepF_nil))), ?_⟩
      refine G_pg (t := 42) 30 rfl (by decide +kernel) h rfl rfl (fun h => Y_lnl is22 h) ?_
      intro v h
      refine G_pg (t := 42) 31 rfl (by decide +kernel) h rfl rfl (fun h => Y_eqi h) ?_
      intro v h
      refine G_p 32 rfl (by decide +kernel) (Y_pk h) ?_
      intro v h
      refine G_p 33 rfl (by decide +kernel) (Y_as h) ?_
      intro v h
      refine G_done (by decide +kernel) ?_
      refine E_n ?_
      refine C_ret ?_
      show bodyPost Try.prog Try.f8 (Rt Q) .ret _ _
      exact post_tmps (ts := [0]) (.inr rfl) rfl h

/- factotum/factotumlaw31.early -/
def f9 (t0 : Value) : M :=
  lnl t0 fun t5 =>
  mnm t5 (.int .i64 80) fun t6 =>
  sll 1 t0 none (some t6) fun t7 =>
  rt t7
theorem s9 (t0 : Value) (w : World) (Q : Value → World → Prop) (h : f9 t0 w Q) : Calls Try.prog 9 #[t0] w (Rt Q) := by
  refine calls_of (l := [t0]) Try.func9 rfl Try.ntmps9 (Nat.le_of_ble_eq_true rfl) ?_
  unfold f9 at h
  refine wp_seq ?_
  refine L_region ?_
  refine L_as ?_
  refine L_nil ?_
  refine E_n ?_
  refine wp_seq ?_
  refine L_region ?_
  refine L_mv ?_
  refine L_mv ?_
  refine L_u (P_lnl is22 h) ?_
  intro v w h
  refine L_u (P_mnm (t := 0) h) ?_
  intro v w h
  refine L_u (P_sll se22 h) ?_
  intro v w h
  refine L_as ?_
  refine L_nil ?_
  refine E_n ?_
  refine C_ret ?_
  show bodyPost Try.prog Try.f9 (Rt Q) .ret _ _
  exact post_tmps (ts := [2]) (.inr rfl) rfl h

/- factotum/factotumref02.Same -/
def f11_b2 (j1 : M) (self2 : Value → Value → Value → M) (t0_1 t1_1 t5 : Value) : M :=
  lnl t0_1 fun t13 =>
  lt .i64 t5 t13 fun t14 =>
  cnd t14 (
    dr <|
    idv t0_1 fun t17 =>
    idv t5 fun t18 =>
    ia 3 t17 t18 fun t19 =>
    ldn 3 t19 fun t20 =>
    idv t1_1 fun t21 =>
    idv t5 fun t22 =>
    ia 3 t21 t22 fun t23 =>
    ldn 3 t23 fun t24 =>
    smr Try.prog (do eqGuard .neq 31 (.tmp 20) (.tmp 24) t20 t24; binOp .neq 31 t20 t24) fun t25 =>
    cnd t25 (
      rt (.bool false)
      ) (
      ad .i64 t5 (.int .i64 1) fun t16 =>
      self2 t0_1 t1_1 t16
      )
    ) (
    j1
    )
def f11_j1 : M :=
  rt (.bool true)
def f11 (t0 t1 : Value) : M :=
  lnl t0 fun t7 =>
  lnl t1 fun t9 =>
  nei .i64 t7 t9 fun t10 =>
  cnd t10 (
    rt (.bool false)
    ) (
    jn (fun (j1 : M) =>
      lo (fun _ _ _ => bot) (f11_b2 j1) (fun l => l t0 t1 (.int .i64 0))
      ) (f11_j1)
    )
theorem s11 (t0 t1 : Value) (w : World) (Q : Value → World → Prop) (h : f11 t0 t1 w Q) : Calls Try.prog 11 #[t0, t1] w (Rt Q) := by
  refine calls_of (l := [t0, t1]) Try.func11 rfl Try.ntmps11 (Nat.le_of_ble_eq_true rfl) ?_
  unfold f11 at h
  refine wp_seq ?_
  refine L_region ?_
  refine L_as ?_
  refine L_nil ?_
  refine E_n ?_
  refine wp_seq ?_
  refine wp_seq ?_
  refine L_region ?_
  refine L_mv ?_
  refine L_u (P_lnl is32 h) ?_
  intro v w h
  refine L_mv ?_
  refine L_u (P_lnl is32 h) ?_
  intro v w h
  refine L_u (P_nei h) ?_
  intro v w h
  refine L_nil ?_
  refine E_n ?_
  refine C_cnd h (fun h => ?_) (fun h => ?_)
  · refine wp_seq ?_
    refine L_region ?_
    refine L_as ?_
    refine L_nil ?_
    refine E_n ?_
    refine C_ret ?_
    show bodyPost Try.prog Try.f11 (Rt Q) .ret _ _
    exact post_tmps (ts := [4]) (.inr rfl) rfl h
  · refine C_skip ?_
    refine E_n ?_
    refine wp_seq ?_
    refine wp_seq ?_
    refine L_region ?_
    refine L_as ?_
    refine L_nil ?_
    refine E_n ?_
    refine C_join (fun (k : M) (ρ : Nat → Value) => k) h (fun j1 J1 h => ?_) (fun ρ w h => ?_)
    · refine C_blk ?_
      refine C_lo (fun (l : Value → Value → Value → M) (ρ : Nat → Value) => l (ρ 0) (ρ 1) (ρ 5)) h (fun ρ w h => h) (fun nx self2 L2 ρ w h => ?_)
      unfold f11_b2 at h
      refine wp_seq ?_
      refine wp_seq ?_
      refine L_region ?_
      refine L_mv ?_
      refine L_mv ?_
      refine L_u (P_lnl is32 h) ?_
      intro v w h
      refine L_u (P_lt h) ?_
      intro v w h
      refine L_nil ?_
      refine E_n ?_
      refine C_cnd h (fun h => ?_) (fun h => ?_)
      · refine C_skip ?_
        refine E_n ?_
        refine wp_seq ?_
        refine C_blk ?_
        refine wp_seq ?_
        refine D_region (by decide +kernel) 9 rfl ?_
        replace h := dr_e h
        refine G_p 0 rfl (by decide +kernel) (Y_mv h) ?_
        intro v h
        refine G_p 1 rfl (by decide +kernel) (Y_mv h) ?_
        intro v h
        refine G_p 2 rfl (by decide +kernel) (Y_ia se32 h) ?_
        intro v h
        refine G_r _ 3 rfl (by decide +kernel) (R_ldn ag31 h) ?_
        intro v h
        refine G_p 4 rfl (by decide +kernel) (Y_mv h) ?_
        intro v h
        refine G_p 5 rfl (by decide +kernel) (Y_mv h) ?_
        intro v h
        refine G_p 6 rfl (by decide +kernel) (Y_ia se32 h) ?_
        intro v h
        refine G_r _ 7 rfl (by decide +kernel) (R_ldn ag31 h) ?_
        intro v h
        refine G_r _ 8 rfl (by decide +kernel) (R_sm rfl h) ?_
        intro v h
        refine G_done (by decide +kernel) ?_
        refine E_n ?_
        refine C_cnd h (fun h => ?_) (fun h => ?_)
        · refine wp_seq ?_
          refine L_region ?_
          refine L_as ?_
          refine L_nil ?_
          refine E_n ?_
          refine C_ret ?_
          show bodyPost Try.prog Try.f11 (Rt Q) .ret _ _
          exact post_tmps (ts := [4]) (.inr rfl) rfl h
        · refine C_skip ?_
          refine B_n ?_
          refine E_n ?_
          refine L_region ?_
          refine L_mv ?_
          refine L_u (P_ad h) ?_
          intro v w h
          refine L_as ?_
          refine L_nil ?_
          refine E_n ?_
          exact L2 _ _ h
      · refine C_exit ?_
        refine E_x ?_
        refine E_x ?_
        refine B_x ?_
        exact J1 _ _ h
    · unfold f11_j1 at h
      refine E_n ?_
      refine wp_seq ?_
      refine L_region ?_
      refine L_as ?_
      refine L_nil ?_
      refine E_n ?_
      refine C_ret ?_
      show bodyPost Try.prog Try.f11 (Rt Q) .ret _ _
      exact post_tmps (ts := [4]) (.inr rfl) rfl h

/- factotum/factotumlaw31.RelateJoin -/
def f3_j5 (self4 : Value → Value → Value → Value → Value → Value → Value → M) (t0_3 t1_3 t5_3 t7_2 t9_2 t10_2 t11_1 : Value) : M :=
  ad .i64 t11_1 (.int .i64 1) fun t44 =>
  self4 t0_3 t1_3 t5_3 t7_2 t9_2 t10_2 t44
def f3_b4 (j3 : Value → Value → Value → Value → Value → Value → M) (self4 : Value → Value → Value → Value → Value → Value → Value → M) (t0_2 t1_2 t5_2 t7_1 t9_1 t10_1 t11 : Value) : M :=
  lnl t1_2 fun t41 =>
  lt .i64 t11 t41 fun t42 =>
  cnd t42 (
    dr <|
    idv t0_2 fun t45 =>
    idv t10_1 fun t46 =>
    ia 1 t45 t46 fun t47 =>
    ld t47 fun t48 =>
    iaa 2 1 t5_2 (.int .i64 0) fun t49 =>
    ld t49 fun t50 =>
    ia 3 t48 t50 fun t51 =>
    ldn 3 t51 fun t52 =>
    idv t1_2 fun t53 =>
    idv t11 fun t54 =>
    ia 1 t53 t54 fun t55 =>
    ld t55 fun t56 =>
    iaa 2 1 t5_2 (.int .i64 1) fun t57 =>
    ld t57 fun t58 =>
    ia 3 t56 t58 fun t59 =>
    ldn 3 t59 fun t60 =>
    smr Try.prog (do eqGuard .eql 31 (.tmp 52) (.tmp 60) t52 t60; binOp .eql 31 t52 t60) fun t61 =>
    jn (fun (j5 : Value → Value → Value → Value → Value → Value → Value → M) =>
      cnd t61 (
        dr <|
        idv t9_1 fun t62 =>
        idv t7_1 fun t63 =>
        lnl t63 fun t64 =>
        ge .i64 t62 t64 fun t65 =>
        idv t65 fun t66 =>
        gd t66 false (idv t7_1) fun t67 =>
        gd t66 false (idv t9_1) fun t68 =>
        gd t66 false (ia 1 t67 t68) fun t69 =>
        gd t66 false (ld t69) fun t70 =>
        gd t66 false (lnl t70) fun t71 =>
        gd t66 false (idv t0_2) fun t72 =>
        gd t66 false (idv t10_1) fun t73 =>
        gd t66 false (ia 1 t72 t73) fun t74 =>
        gd t66 false (ld t74) fun t75 =>
        gd t66 false (lnl t75) fun t76 =>
        gd t66 false (idv t1_2) fun t77 =>
        gd t66 false (idv t11) fun t78 =>
        gd t66 false (ia 1 t77 t78) fun t79 =>
        gd t66 false (ld t79) fun t80 =>
        gd t66 false (lnl t80) fun t81 =>
        gd t66 false (ad .i64 t76 t81) fun t82 =>
        gd t66 false (nei .i64 t71 t82) fun t83 =>
        pk t66 (.bool true) t83 fun t84 =>
        idv t84 fun t85 =>
        gd t85 false (idv t7_1) fun t86 =>
        gd t85 false (idv t9_1) fun t87 =>
        gd t85 false (ia 1 t86 t87) fun t88 =>
        gd t85 false (ld t88) fun t89 =>
        gd t85 false (idv t0_2) fun t90 =>
        gd t85 false (idv t10_1) fun t91 =>
        gd t85 false (ia 1 t90 t91) fun t92 =>
        gd t85 false (ld t92) fun t93 =>
        gd t85 false (lnl t93) fun t94 =>
        gd t85 false (sll 3 t89 none (some t94)) fun t95 =>
        gd t85 false (idv t0_2) fun t96 =>
        gd t85 false (idv t10_1) fun t97 =>
        gd t85 false (ia 1 t96 t97) fun t98 =>
        gd t85 false (ld t98) fun t99 =>
        gd t85 false (cl (f11 t95 t99)) fun t100 =>
        gd t85 false (nt t100) fun t101 =>
        pk t85 (.bool true) t101 fun t102 =>
        idv t102 fun t103 =>
        gd t103 false (idv t7_1) fun t104 =>
        gd t103 false (idv t9_1) fun t105 =>
        gd t103 false (ia 1 t104 t105) fun t106 =>
        gd t103 false (ld t106) fun t107 =>
        gd t103 false (idv t0_2) fun t108 =>
        gd t103 false (idv t10_1) fun t109 =>
        gd t103 false (ia 1 t108 t109) fun t110 =>
        gd t103 false (ld t110) fun t111 =>
        gd t103 false (lnl t111) fun t112 =>
        gd t103 false (sll 3 t107 (some t112) none) fun t113 =>
        gd t103 false (idv t1_2) fun t114 =>
        gd t103 false (idv t11) fun t115 =>
        gd t103 false (ia 1 t114 t115) fun t116 =>
        gd t103 false (ld t116) fun t117 =>
        gd t103 false (cl (f11 t113 t117)) fun t118 =>
        gd t103 false (nt t118) fun t119 =>
        pk t103 (.bool true) t119 fun t120 =>
        cnd t120 (
          rt (.bool false)
          ) (
          ad .i64 t9_1 (.int .i64 1) fun t122 =>
          j5 t0_2 t1_2 t5_2 t7_1 t122 t10_1 t11
          )
        ) (
        j5 t0_2 t1_2 t5_2 t7_1 t9_1 t10_1 t11
        )
      ) (f3_j5 self4)
    ) (
    j3 t0_2 t1_2 t5_2 t7_1 t9_1 t10_1
    )
def f3_j3 (self2 : Value → Value → Value → Value → Value → Value → M) (t0_4 t1_4 t5_4 t7_3 t9_3 t10_3 : Value) : M :=
  ad .i64 t10_3 (.int .i64 1) fun t38 =>
  self2 t0_4 t1_4 t5_4 t7_3 t9_3 t38
def f3_b2 (j1 : Value → Value → M) (self2 : Value → Value → Value → Value → Value → Value → M) (t0_1 t1_1 t5_1 t7 t9 t10 : Value) : M :=
  lnl t0_1 fun t35 =>
  lt .i64 t10 t35 fun t36 =>
  cnd t36 (
    jn (fun (j3 : Value → Value → Value → Value → Value → Value → M) =>
      lo (fun _ _ _ _ _ _ _ => bot) (f3_b4 j3) (fun l => l t0_1 t1_1 t5_1 t7 t9 t10 (.int .i64 0))
      ) (f3_j3 self2)
    ) (
    j1 t7 t9
    )
def f3_j1 (t7_4 t9_4 : Value) : M :=
  lnl t7_4 fun t125 =>
  eqi .i64 t9_4 t125 fun t126 =>
  rt t126
def f3 (t0 t1 t2 : Value) : M :=
  bx 23 t2 fun t5 =>
  cl (f8) fun t12 =>
  nt t12 fun t13 =>
  cnd t13 (
    rt (.bool false)
    ) (
    cl (f9 t0) fun t15 =>
    cl (f9 t1) fun t17 =>
    iaa 2 1 t5 (.int .i64 0) fun t21 =>
    ld t21 fun t22 =>
    iaa 2 1 t5 (.int .i64 1) fun t23 =>
    ld t23 fun t24 =>
    cl (f10 t15 t17 t22 t24) fun t25 =>
    ex 0 t25 fun t26 =>
    ex 1 t25 fun t27 =>
    nei .i64 t27 (.int .i64 0) fun t29 =>
    cnd t29 (
      lnl t26 fun t31 =>
      eqi .i64 t31 (.int .i64 0) fun t32 =>
      rt t32
      ) (
      jn (fun (j1 : Value → Value → M) =>
        lo (fun _ _ _ _ _ _ => bot) (f3_b2 j1) (fun l => l t15 t17 t5 t26 (.int .i64 0) (.int .i64 0))
        ) (f3_j1)
      )
    )
theorem s3 (t0 t1 t2 : Value) (w : World) (Q : Value → World → Prop) (h : f3 t0 t1 t2 w Q) : Calls Try.prog 3 #[t0, t1, t2] w (Rt Q) := by
  refine calls_of (l := [t0, t1, t2]) Try.func3 rfl Try.ntmps3 (Nat.le_of_ble_eq_true rfl) ?_
  unfold f3 at h
  refine wp_seq ?_
  refine L_region ?_
  refine L_u (P_bx h) ?_
  intro v w h
  refine L_as ?_
  refine L_nil ?_
  refine E_n ?_
  refine wp_seq ?_
  refine wp_seq ?_
  refine L_region ?_
  refine L_u (N_cl Try.func8 rfl nn8 (fun w Q h => s8 w Q h) h) ?_
  intro v w h
  refine L_u (P_nt h) ?_
  intro v w h
  refine L_nil ?_
  refine E_n ?_
  refine C_cnd h (fun h => ?_) (fun h => ?_)
  · refine wp_seq ?_
    refine L_region ?_
    refine L_as ?_
    refine L_nil ?_
    refine E_n ?_
    refine C_ret ?_
    show bodyPost Try.prog Try.f3 (Rt Q) .ret _ _
    exact post_tmps (ts := [6]) (.inr rfl) rfl h
  · refine C_skip ?_
    refine E_n ?_
    refine wp_seq ?_
    refine L_region ?_
    refine L_mv ?_
    refine L_u (N_cl Try.func9 rfl nn9 (fun w Q h => s9 _ w Q h) h) ?_
    intro v w h
    refine L_mv ?_
    refine L_u (N_cl Try.func9 rfl nn9 (fun w Q h => s9 _ w Q h) h) ?_
    intro v w h
    refine L_as ?_
    refine L_as ?_
    refine L_nil ?_
    refine E_n ?_
    refine wp_seq ?_
    refine L_region ?_
    refine L_mv ?_
    refine L_mv ?_
    refine L_u (P_iaa ae23 h) ?_
    intro v w h
    refine L_u (P_ld sc3 h) ?_
    intro v w h
    refine L_u (P_iaa ae23 h) ?_
    intro v w h
    refine L_u (P_ld sc3 h) ?_
    intro v w h
    refine L_u (N_cl Try.func10 rfl nn10 (fun w Q h => s10 _ _ _ _ w Q h) h) ?_
    intro v w h
    refine L_mv ?_
    refine L_u (P_ex h) ?_
    intro v w h
    refine L_u (P_ex h) ?_
    intro v w h
    refine L_as ?_
    refine L_as ?_
    refine L_nil ?_
    refine E_n ?_
    refine wp_seq ?_
    refine wp_seq ?_
    refine L_region ?_
    refine L_mv ?_
    refine L_u (P_nei h) ?_
    intro v w h
    refine L_nil ?_
    refine E_n ?_
    refine C_cnd h (fun h => ?_) (fun h => ?_)
    · refine wp_seq ?_
      refine L_region ?_
      refine L_mv ?_
      refine L_u (P_lnl is22 h) ?_
      intro v w h
      refine L_u (P_eqi h) ?_
      intro v w h
      refine L_as ?_
      refine L_nil ?_
      refine E_n ?_
      refine C_ret ?_
      show bodyPost Try.prog Try.f3 (Rt Q) .ret _ _
      exact post_tmps (ts := [6]) (.inr rfl) rfl h
    · refine C_skip ?_
      refine E_n ?_
      refine wp_seq ?_
      refine L_region ?_
      refine L_as ?_
      refine L_nil ?_
      refine E_n ?_
      refine wp_seq ?_
      refine wp_seq ?_
      refine L_region ?_
      refine L_as ?_
      refine L_nil ?_
      refine E_n ?_
      refine C_join (fun (k : Value → Value → M) (ρ : Nat → Value) => k (ρ 7) (ρ 9)) h (fun j1 J1 h => ?_) (fun ρ w h => ?_)
      · refine C_blk ?_
        refine C_lo (fun (l : Value → Value → Value → Value → Value → Value → M) (ρ : Nat → Value) => l (ρ 0) (ρ 1) (ρ 5) (ρ 7) (ρ 9) (ρ 10)) h (fun ρ w h => h) (fun nx self2 L2 ρ w h => ?_)
        unfold f3_b2 at h
        refine wp_seq ?_
        refine wp_seq ?_
        refine L_region ?_
        refine L_mv ?_
        refine L_mv ?_
        refine L_u (P_lnl is22 h) ?_
        intro v w h
        refine L_u (P_lt h) ?_
        intro v w h
        refine L_nil ?_
        refine E_n ?_
        refine C_cnd h (fun h => ?_) (fun h => ?_)
        · refine C_skip ?_
          refine E_n ?_
          refine wp_seq ?_
          refine C_blk ?_
          refine wp_seq ?_
          refine L_region ?_
          refine L_as ?_
          refine L_nil ?_
          refine E_n ?_
          refine C_join (fun (k : Value → Value → Value → Value → Value → Value → M) (ρ : Nat → Value) => k (ρ 0) (ρ 1) (ρ 5) (ρ 7) (ρ 9) (ρ 10)) h (fun j3 J3 h => ?_) (fun ρ w h => ?_)
          · refine C_blk ?_
            refine C_lo (fun (l : Value → Value → Value → Value → Value → Value → Value → M) (ρ : Nat → Value) => l (ρ 0) (ρ 1) (ρ 5) (ρ 7) (ρ 9) (ρ 10) (ρ 11)) h (fun ρ w h => h) (fun nx self4 L4 ρ w h => ?_)
            unfold f3_b4 at h
            refine wp_seq ?_
            refine wp_seq ?_
            refine L_region ?_
            refine L_mv ?_
            refine L_mv ?_
            refine L_u (P_lnl is22 h) ?_
            intro v w h
            refine L_u (P_lt h) ?_
            intro v w h
            refine L_nil ?_
            refine E_n ?_
            refine C_cnd h (fun h => ?_) (fun h => ?_)
            · refine C_skip ?_
              refine E_n ?_
              refine wp_seq ?_
              refine C_blk ?_
              refine wp_seq ?_
              refine D_region (by decide +kernel) 17 rfl ?_
              replace h := dr_e h
              refine G_p 0 rfl (by decide +kernel) (Y_mv h) ?_
              intro v h
              refine G_p 1 rfl (by decide +kernel) (Y_mv h) ?_
              intro v h
              refine G_p 2 rfl (by decide +kernel) (Y_ia se22 h) ?_
              intro v h
              refine G_r _ 3 rfl (by decide +kernel) (R_ld sc33 h) ?_
              intro v h
              refine G_p 4 rfl (by decide +kernel) (Y_iaa ae23 h) ?_
              intro v h
              refine G_r _ 5 rfl (by decide +kernel) (R_ld sc3 h) ?_
              intro v h
              refine G_p 6 rfl (by decide +kernel) (Y_ia se33 h) ?_
              intro v h
              refine G_r _ 7 rfl (by decide +kernel) (R_ldn ag31 h) ?_
              intro v h
              refine G_p 8 rfl (by decide +kernel) (Y_mv h) ?_
              intro v h
              refine G_p 9 rfl (by decide +kernel) (Y_mv h) ?_
              intro v h
              refine G_p 10 rfl (by decide +kernel) (Y_ia se22 h) ?_
              intro v h
              refine G_r _ 11 rfl (by decide +kernel) (R_ld sc33 h) ?_
              intro v h
              refine G_p 12 rfl (by decide +kernel) (Y_iaa ae23 h) ?_
              intro v h
              refine G_r _ 13 rfl (by decide +kernel) (R_ld sc3 h) ?_
              intro v h
              refine G_p 14 rfl (by decide +kernel) (Y_ia se33 h) ?_
              intro v h
              refine G_r _ 15 rfl (by decide +kernel) (R_ldn ag31 h) ?_
              intro v h
              refine G_r _ 16 rfl (by decide +kernel) (R_sm rfl h) ?_
              intro v h
              refine G_done (by decide +kernel) ?_
              refine E_n ?_
              refine C_join (fun (k : Value → Value → Value → Value → Value → Value → Value → M) (ρ : Nat → Value) => k (ρ 0) (ρ 1) (ρ 5) (ρ 7) (ρ 9) (ρ 10) (ρ 11)) h (fun j5 J5 h => ?_) (fun ρ w h => ?_)
              · refine C_cnd h (fun h => ?_) (fun h => ?_)
                · refine wp_seq ?_
                  refine wp_seq ?_
                  refine D_region (by decide +kernel) 59 rfl ?_
                  replace h := dr_e h
                  refine G_p 0 rfl (by decide +kernel) (Y_mv h) ?_
                  intro v h
                  refine G_p 1 rfl (by decide +kernel) (Y_mv h) ?_
                  intro v h
                  refine G_p 2 rfl (by decide +kernel) (Y_lnl is22 h) ?_
                  intro v h
                  refine G_p 3 rfl (by decide +kernel) (Y_ge h) ?_
                  intro v h
                  refine G_p 4 rfl (by decide +kernel) (Y_mv h) ?_
                  intro v h
                  refine G_pg (t := 66) 5 rfl (by decide +kernel) h rfl rfl (fun h => Y_mv h) ?_
                  intro v h
                  refine G_pg (t := 66) 6 rfl (by decide +kernel) h rfl rfl (fun h => Y_mv h) ?_
                  intro v h
                  refine G_pg (t := 66) 7 rfl (by decide +kernel) h rfl rfl (fun h => Y_ia se22 h) ?_
                  intro v h
                  refine G_rg (t := 66) _ 8 rfl (by decide +kernel) h rfl rfl (fun h => R_ld sc33 h) ?_
                  intro v h
                  refine G_pg (t := 66) 9 rfl (by decide +kernel) h rfl rfl (fun h => Y_lnl is33 h) ?_
                  intro v h
                  refine G_pg (t := 66) 10 rfl (by decide +kernel) h rfl rfl (fun h => Y_mv h) ?_
                  intro v h
                  refine G_pg (t := 66) 11 rfl (by decide +kernel) h rfl rfl (fun h => Y_mv h) ?_
                  intro v h
                  refine G_pg (t := 66) 12 rfl (by decide +kernel) h rfl rfl (fun h => Y_ia se22 h) ?_
                  intro v h
                  refine G_rg (t := 66) _ 13 rfl (by decide +kernel) h rfl rfl (fun h => R_ld sc33 h) ?_
                  intro v h
                  refine G_pg (t := 66) 14 rfl (by decide +kernel) h rfl rfl (fun h => Y_lnl is33 h) ?_
                  intro v h
                  refine G_pg (t := 66) 15 rfl (by decide +kernel) h rfl rfl (fun h => Y_mv h) ?_
                  intro v h
                  refine G_pg (t := 66) 16 rfl (by decide +kernel) h rfl rfl (fun h => Y_mv h) ?_
                  intro v h
                  refine G_pg (t := 66) 17 rfl (by decide +kernel) h rfl rfl (fun h => Y_ia se22 h) ?_
                  intro v h
                  refine G_rg (t := 66) _ 18 rfl (by decide +kernel) h rfl rfl (fun h => R_ld sc33 h) ?_
                  intro v h
                  refine G_pg (t := 66) 19 rfl (by decide +kernel) h rfl rfl (fun h => Y_lnl is33 h) ?_
                  intro v h
                  refine G_pg (t := 66) 20 rfl (by decide +kernel) h rfl rfl (fun h => Y_ad h) ?_
                  intro v h
                  refine G_pg (t := 66) 21 rfl (by decide +kernel) h rfl rfl (fun h => Y_nei h) ?_
                  intro v h
                  refine G_p 22 rfl (by decide +kernel) (Y_pk h) ?_
                  intro v h
                  refine G_p 23 rfl (by decide +kernel) (Y_mv h) ?_
                  intro v h
                  refine G_pg (t := 85) 24 rfl (by decide +kernel) h rfl rfl (fun h => Y_mv h) ?_
                  intro v h
                  refine G_pg (t := 85) 25 rfl (by decide +kernel) h rfl rfl (fun h => Y_mv h) ?_
                  intro v h
                  refine G_pg (t := 85) 26 rfl (by decide +kernel) h rfl rfl (fun h => Y_ia se22 h) ?_
                  intro v h
                  refine G_rg (t := 85) _ 27 rfl (by decide +kernel) h rfl rfl (fun h => R_ld sc33 h) ?_
                  intro v h
                  refine G_pg (t := 85) 28 rfl (by decide +kernel) h rfl rfl (fun h => Y_mv h) ?_
                  intro v h
                  refine G_pg (t := 85) 29 rfl (by decide +kernel) h rfl rfl (fun h => Y_mv h) ?_
                  intro v h
                  refine G_pg (t := 85) 30 rfl (by decide +kernel) h rfl rfl (fun h => Y_ia se22 h) ?_
                  intro v h
                  refine G_rg (t := 85) _ 31 rfl (by decide +kernel) h rfl rfl (fun h => R_ld sc33 h) ?_
                  intro v h
                  refine G_pg (t := 85) 32 rfl (by decide +kernel) h rfl rfl (fun h => Y_lnl is33 h) ?_
                  intro v h
                  refine G_pg (t := 85) 33 rfl (by decide +kernel) h rfl rfl (fun h => Y_sll se33 h) ?_
                  intro v h
                  refine G_pg (t := 85) 34 rfl (by decide +kernel) h rfl rfl (fun h => Y_mv h) ?_
                  intro v h
                  refine G_pg (t := 85) 35 rfl (by decide +kernel) h rfl rfl (fun h => Y_mv h) ?_
                  intro v h
                  refine G_pg (t := 85) 36 rfl (by decide +kernel) h rfl rfl (fun h => Y_ia se22 h) ?_
                  intro v h
                  refine G_rg (t := 85) _ 37 rfl (by decide +kernel) h rfl rfl (fun h => R_ld sc33 h) ?_
                  intro v h
                  refine G_eg (t := 85) 38 rfl (by decide +kernel) h rfl rfl (fun c h => N_cl Try.func11 rfl nn11 (fun w Q h => s11 _ _ w Q h) h c) ?_
                  intro v w h
                  refine ⟨keepF_dep [37] (by decide +kernel) rfl (keepF_dep [33, 32, 31] (by decide +kernel) rfl (keepF_dep [33, 27] (by decide +kernel) rfl (keepF_dep [23, 22, 21, 20, 19, 18] (by decide +kernel) rfl (keepF_dep [23, 22, 21, 20, 14, 13] (by decide +kernel) rfl (keepF_dep [23, 22, 21, 9, 8] (by decide +kernel) rfl keepF_nil))))), ?_⟩
                  refine G_pg (t := 85) 39 rfl (by decide +kernel) h rfl rfl (fun h => Y_nt h) ?_
                  intro v h
                  refine G_p 40 rfl (by decide +kernel) (Y_pk h) ?_
                  intro v h
                  refine G_p 41 rfl (by decide +kernel) (Y_mv h) ?_
                  intro v h
                  refine G_pg (t := 103) 42 rfl (by decide +kernel) h rfl rfl (fun h => Y_mv h) ?_
                  intro v h
                  refine G_pg (t := 103) 43 rfl (by decide +kernel) h rfl rfl (fun h => Y_mv h) ?_
                  intro v h
                  refine G_pg (t := 103) 44 rfl (by decide +kernel) h rfl rfl (fun h => Y_ia se22 h) ?_
                  intro v h
                  refine G_rg (t := 103) _ 45 rfl (by decide +kernel) h rfl rfl (fun h => R_ld sc33 h) ?_
                  intro v h
                  refine G_pg (t := 103) 46 rfl (by decide +kernel) h rfl rfl (fun h => Y_mv h) ?_
                  intro v h
                  refine G_pg (t := 103) 47 rfl (by decide +kernel) h rfl rfl (fun h => Y_mv h) ?_
                  intro v h
                  refine G_pg (t := 103) 48 rfl (by decide +kernel) h rfl rfl (fun h => Y_ia se22 h) ?_
                  intro v h
                  refine G_rg (t := 103) _ 49 rfl (by decide +kernel) h rfl rfl (fun h => R_ld sc33 h) ?_
                  intro v h
                  refine G_pg (t := 103) 50 rfl (by decide +kernel) h rfl rfl (fun h => Y_lnl is33 h) ?_
                  intro v h
                  refine G_pg (t := 103) 51 rfl (by decide +kernel) h rfl rfl (fun h => Y_sll se33 h) ?_
                  intro v h
                  refine G_pg (t := 103) 52 rfl (by decide +kernel) h rfl rfl (fun h => Y_mv h) ?_
                  intro v h
                  refine G_pg (t := 103) 53 rfl (by decide +kernel) h rfl rfl (fun h => Y_mv h) ?_
                  intro v h
                  refine G_pg (t := 103) 54 rfl (by decide +kernel) h rfl rfl (fun h => Y_ia se22 h) ?_
                  intro v h
                  refine G_rg (t := 103) _ 55 rfl (by decide +kernel) h rfl rfl (fun h => R_ld sc33 h) ?_
                  intro v h
                  refine G_eg (t := 103) 56 rfl (by decide +kernel) h rfl rfl (fun c h => N_cl Try.func11 rfl nn11 (fun w Q h => s11 _ _ w Q h) h c) ?_
                  intro v w h
                  refine ⟨keepF_dep [55] (by decide +kernel) rfl (keepF_dep [51, 50, 49] (by decide +kernel) rfl (keepF_dep [51, 45] (by decide +kernel) rfl (keepF_dep [41, 38, 37] (by decide +kernel) rfl (keepF_dep [41, 38, 33, 32, 31] (by decide +kernel) rfl (keepF_dep [41, 38, 33, 27] (by decide +kernel) rfl (keepF_dep [41, 40, 23, 22, 21, 20, 19, 18] (by decide +kernel) rfl (keepF_dep [41, 40, 23, 22, 21, 20, 14, 13] (by decide +kernel) rfl (keepF_dep [41, 40, 23, 22, 21, 9, 8] (by decide +kernel) rfl keepF_nil)))))))), ?_⟩
                  refine G_pg (t := 103) 57 rfl (by decide +kernel) h rfl rfl (fun h => Y_nt h) ?_
                  intro v h
                  refine G_p 58 rfl (by decide +kernel) (Y_pk h) ?_
                  intro v h
                  refine G_done (by decide +kernel) ?_
                  refine E_n ?_
                  refine C_cnd h (fun h => ?_) (fun h => ?_)
                  · refine wp_seq ?_
                    refine L_region ?_
                    refine L_as ?_
                    refine L_nil ?_
                    refine E_n ?_
                    refine C_ret ?_
                    show bodyPost Try.prog Try.f3 (Rt Q) .ret _ _
                    exact post_tmps (ts := [6]) (.inr rfl) rfl h
                  · refine C_skip ?_
                    refine E_n ?_
                    refine L_region ?_
                    refine L_mv ?_
                    refine L_u (P_ad h) ?_
                    intro v w h
                    refine L_as ?_
                    refine L_nil ?_
                    exact J5 _ _ h
                · refine C_skip ?_
                  exact J5 _ _ h
              · unfold f3_j5 at h
                refine B_n ?_
                refine E_n ?_
                refine L_region ?_
                refine L_mv ?_
                refine L_u (P_ad h) ?_
                intro v w h
                refine L_as ?_
                refine L_nil ?_
                refine E_n ?_
                exact L4 _ _ h
            · refine C_exit ?_
              refine E_x ?_
              refine E_x ?_
              refine B_x ?_
              exact J3 _ _ h
          · unfold f3_j3 at h
            refine B_n ?_
            refine E_n ?_
            refine L_region ?_
            refine L_mv ?_
            refine L_u (P_ad h) ?_
            intro v w h
            refine L_as ?_
            refine L_nil ?_
            refine E_n ?_
            exact L2 _ _ h
        · refine C_exit ?_
          refine E_x ?_
          refine E_x ?_
          refine B_x ?_
          exact J1 _ _ h
      · unfold f3_j1 at h
        refine E_n ?_
        refine wp_seq ?_
        refine L_region ?_
        refine L_mv ?_
        refine L_mv ?_
        refine L_u (P_lnl is22 h) ?_
        intro v w h
        refine L_u (P_eqi h) ?_
        intro v w h
        refine L_as ?_
        refine L_nil ?_
        refine E_n ?_
        refine C_ret ?_
        show bodyPost Try.prog Try.f3 (Rt Q) .ret _ _
        exact post_tmps (ts := [6]) (.inr rfl) rfl h

/- factotum/factotumref31.have -/
def f28_b2 (j1 : M) (self2 : Value → Value → Value → M) (t0_1 t1_1 t5 : Value) : M :=
  lnl t0_1 fun t8 =>
  lt .i64 t5 t8 fun t9 =>
  cnd t9 (
    lt .i64 t1_1 (.int .i64 0) fun t13 =>
    gd t13 false (idv t1_1) fun t15 =>
    gd t13 false (idv t0_1) fun t16 =>
    gd t13 false (idv t5) fun t17 =>
    gd t13 false (ia 1 t16 t17) fun t18 =>
    gd t13 false (ld t18) fun t19 =>
    gd t13 false (lnl t19) fun t20 =>
    gd t13 false (ge .i64 t15 t20) fun t21 =>
    pk t13 (.bool true) t21 fun t22 =>
    cnd t22 (
      rt (.bool false)
      ) (
      ad .i64 t5 (.int .i64 1) fun t11 =>
      self2 t0_1 t1_1 t11
      )
    ) (
    j1
    )
def f28_j1 : M :=
  rt (.bool true)
def f28 (t0 t1 : Value) : M :=
  jn (fun (j1 : M) =>
    lo (fun _ _ _ => bot) (f28_b2 j1) (fun l => l t0 t1 (.int .i64 0))
    ) (f28_j1)
theorem s28 (t0 t1 : Value) (w : World) (Q : Value → World → Prop) (h : f28 t0 t1 w Q) : Calls Try.prog 28 #[t0, t1] w (Rt Q) := by
  refine calls_of (l := [t0, t1]) Try.func28 rfl Try.ntmps28 (Nat.le_of_ble_eq_true rfl) ?_
  unfold f28 at h
  refine wp_seq ?_
  refine L_region ?_
  refine L_as ?_
  refine L_nil ?_
  refine E_n ?_
  refine wp_seq ?_
  refine wp_seq ?_
  refine L_region ?_
  refine L_as ?_
  refine L_nil ?_
  refine E_n ?_
  refine C_join (fun (k : M) (ρ : Nat → Value) => k) h (fun j1 J1 h => ?_) (fun ρ w h => ?_)
  · refine C_blk ?_
    refine C_lo (fun (l : Value → Value → Value → M) (ρ : Nat → Value) => l (ρ 0) (ρ 1) (ρ 5)) h (fun ρ w h => h) (fun nx self2 L2 ρ w h => ?_)
    unfold f28_b2 at h
    refine wp_seq ?_
    refine wp_seq ?_
    refine L_region ?_
    refine L_mv ?_
    refine L_mv ?_
    refine L_u (P_lnl is22 h) ?_
    intro v w h
    refine L_u (P_lt h) ?_
    intro v w h
    refine L_nil ?_
    refine E_n ?_
    refine C_cnd h (fun h => ?_) (fun h => ?_)
    · refine C_skip ?_
      refine E_n ?_
      refine wp_seq ?_
      refine C_blk ?_
      refine wp_seq ?_
      refine L_region ?_
      refine L_mv ?_
      refine L_u (P_lt h) ?_
      intro v w h
      refine L_mv ?_
      refine L_g (t := 14) h rfl rfl (fun c h => P_mv h c) ?_
      intro v w h
      refine L_g (t := 14) h rfl rfl (fun c h => P_mv h c) ?_
      intro v w h
      refine L_g (t := 14) h rfl rfl (fun c h => P_mv h c) ?_
      intro v w h
      refine L_g (t := 14) h rfl rfl (fun c h => P_ia se22 h c) ?_
      intro v w h
      refine L_g (t := 14) h rfl rfl (fun c h => P_ld sc33 h c) ?_
      intro v w h
      refine L_g (t := 14) h rfl rfl (fun c h => P_lnl is33 h c) ?_
      intro v w h
      refine L_g (t := 14) h rfl rfl (fun c h => P_ge h c) ?_
      intro v w h
      refine L_u (P_pk h) ?_
      intro v w h
      refine L_nil ?_
      refine E_n ?_
      refine C_cnd h (fun h => ?_) (fun h => ?_)
      · refine wp_seq ?_
        refine L_region ?_
        refine L_as ?_
        refine L_nil ?_
        refine E_n ?_
        refine C_ret ?_
        show bodyPost Try.prog Try.f28 (Rt Q) .ret _ _
        exact post_tmps (ts := [4]) (.inr rfl) rfl h
      · refine C_skip ?_
        refine B_n ?_
        refine E_n ?_
        refine L_region ?_
        refine L_mv ?_
        refine L_u (P_ad h) ?_
        intro v w h
        refine L_as ?_
        refine L_nil ?_
        refine E_n ?_
        exact L2 _ _ h
    · refine C_exit ?_
      refine E_x ?_
      refine E_x ?_
      refine B_x ?_
      exact J1 _ _ h
  · unfold f28_j1 at h
    refine E_n ?_
    refine wp_seq ?_
    refine L_region ?_
    refine L_as ?_
    refine L_nil ?_
    refine E_n ?_
    refine C_ret ?_
    show bodyPost Try.prog Try.f28 (Rt Q) .ret _ _
    exact post_tmps (ts := [4]) (.inr rfl) rfl h

/- factotum/factotumref31.Join -/
def f12_j5 (self4 : Value → Value → Value → Value → Value → Value → Value → M) (t0_3 t1_3 t2_3 t3_3 t10_3 t11_2 t12_1 : Value) : M :=
  ad .i64 t12_1 (.int .i64 1) fun t34 =>
  self4 t0_3 t1_3 t2_3 t3_3 t10_3 t11_2 t34
def f12_b4 (j3 : Value → Value → Value → Value → Value → Value → M) (self4 : Value → Value → Value → Value → Value → Value → Value → M) (t0_2 t1_2 t2_2 t3_2 t10_1 t11_1 t12 : Value) : M :=
  lnl t1_2 fun t31 =>
  lt .i64 t12 t31 fun t32 =>
  cnd t32 (
    dr <|
    idv t0_2 fun t35 =>
    idv t11_1 fun t36 =>
    ia 1 t35 t36 fun t37 =>
    ld t37 fun t38 =>
    idv t2_2 fun t39 =>
    ia 3 t38 t39 fun t40 =>
    ldn 3 t40 fun t41 =>
    idv t1_2 fun t42 =>
    idv t12 fun t43 =>
    ia 1 t42 t43 fun t44 =>
    ld t44 fun t45 =>
    idv t3_2 fun t46 =>
    ia 3 t45 t46 fun t47 =>
    ldn 3 t47 fun t48 =>
    smr Try.prog (do eqGuard .eql 31 (.tmp 41) (.tmp 48) t41 t48; binOp .eql 31 t41 t48) fun t49 =>
    jn (fun (j5 : Value → Value → Value → Value → Value → Value → Value → M) =>
      cnd t49 (
        dr <|
        idv t10_1 fun t50 =>
        idv t0_2 fun t51 =>
        idv t11_1 fun t52 =>
        ia 1 t51 t52 fun t53 =>
        ld t53 fun t54 =>
        idv t1_2 fun t56 =>
        idv t12 fun t57 =>
        ia 1 t56 t57 fun t58 =>
        ld t58 fun t59 =>
        sm Try.prog (Builtin.append_ #[33, 33] 33 #[(.slice none 0 0), t54]) fun t55 =>
        kp (Kld t58 t59) <|
        sm Try.prog (Builtin.append_ #[33, 33] 33 #[t55, t59]) fun t60 =>
        sm Try.prog (Instr.buildSlice 22 1 #[(0, t60)]) fun t61 =>
        sm Try.prog (Builtin.append_ #[22, 22] 22 #[t50, t61]) fun t62 =>
        idv t62 fun t10_2 =>
        j5 t0_2 t1_2 t2_2 t3_2 t10_2 t11_1 t12
        ) (
        j5 t0_2 t1_2 t2_2 t3_2 t10_1 t11_1 t12
        )
      ) (f12_j5 self4)
    ) (
    j3 t0_2 t1_2 t2_2 t3_2 t10_1 t11_1
    )
def f12_j3 (self2 : Value → Value → Value → Value → Value → Value → M) (t0_4 t1_4 t2_4 t3_4 t10_4 t11_3 : Value) : M :=
  ad .i64 t11_3 (.int .i64 1) fun t28 =>
  self2 t0_4 t1_4 t2_4 t3_4 t10_4 t28
def f12_b2 (j1 : Value → M) (self2 : Value → Value → Value → Value → Value → Value → M) (t0_1 t1_1 t2_1 t3_1 t10 t11 : Value) : M :=
  lnl t0_1 fun t25 =>
  lt .i64 t11 t25 fun t26 =>
  cnd t26 (
    jn (fun (j3 : Value → Value → Value → Value → Value → Value → M) =>
      lo (fun _ _ _ _ _ _ _ => bot) (f12_b4 j3) (fun l => l t0_1 t1_1 t2_1 t3_1 t10 t11 (.int .i64 0))
      ) (f12_j3 self2)
    ) (
    j1 t10
    )
def f12_j1 (t10_5 : Value) : M :=
  rt (.tuple #[t10_5, (.int .i64 0)])
def f12 (t0 t1 t2 t3 : Value) : M :=
  cl (f28 t0 t2) fun t15 =>
  nt t15 fun t16 =>
  gd t16 false (idv t1) fun t18 =>
  gd t16 false (idv t3) fun t19 =>
  gd t16 false (cl (f28 t18 t19)) fun t20 =>
  gd t16 false (nt t20) fun t21 =>
  pk t16 (.bool true) t21 fun t22 =>
  cnd t22 (
    rt (.tuple #[(.slice none 0 0), (.int .i64 7)])
    ) (
    jn (fun (j1 : Value → M) =>
      lo (fun _ _ _ _ _ _ => bot) (f12_b2 j1) (fun l => l t0 t1 t2 t3 (.slice none 0 0) (.int .i64 0))
      ) (f12_j1)
    )
theorem s12 (t0 t1 t2 t3 : Value) (w : World) (Q : Value → World → Prop) (h : f12 t0 t1 t2 t3 w Q) : Calls Try.prog 12 #[t0, t1, t2, t3] w (Rt Q) := by
  refine calls_of (l := [t0, t1, t2, t3]) Try.func12 rfl Try.ntmps12 (Nat.le_of_ble_eq_true rfl) ?_
  unfold f12 at h
  refine wp_seq ?_
  refine L_region ?_
  refine L_as ?_
  refine L_as ?_
  refine L_nil ?_
  refine E_n ?_
  refine wp_seq ?_
  refine wp_seq ?_
  refine L_region ?_
  refine L_mv ?_
  refine L_mv ?_
  refine L_u (N_cl Try.func28 rfl nn28 (fun w Q h => s28 _ _ w Q h) h) ?_
  intro v w h
  refine L_u (P_nt h) ?_
  intro v w h
  refine L_mv ?_
  refine L_g (t := 17) h rfl rfl (fun c h => P_mv h c) ?_
  intro v w h
  refine L_g (t := 17) h rfl rfl (fun c h => P_mv h c) ?_
  intro v w h
  refine L_g (t := 17) h rfl rfl (fun c h => N_cl Try.func28 rfl nn28 (fun w Q h => s28 _ _ w Q h) h c) ?_
  intro v w h
  refine L_g (t := 17) h rfl rfl (fun c h => P_nt h c) ?_
  intro v w h
  refine L_u (P_pk h) ?_
  intro v w h
  refine L_nil ?_
  refine E_n ?_
  refine C_cnd h (fun h => ?_) (fun h => ?_)
  · refine wp_seq ?_
    refine L_region ?_
    refine L_as ?_
    refine L_as ?_
    refine L_nil ?_
    refine E_n ?_
    refine C_ret ?_
    show bodyPost Try.prog Try.f12 (Rt Q) .ret _ _
    exact post_tmps (ts := [8, 9]) (.inr rfl) rfl h
  · refine C_skip ?_
    refine E_n ?_
    refine wp_seq ?_
    refine L_region ?_
    refine L_as ?_
    refine L_nil ?_
    refine E_n ?_
    refine wp_seq ?_
    refine wp_seq ?_
    refine L_region ?_
    refine L_as ?_
    refine L_nil ?_
    refine E_n ?_
    refine C_join (fun (k : Value → M) (ρ : Nat → Value) => k (ρ 10)) h (fun j1 J1 h => ?_) (fun ρ w h => ?_)
    · refine C_blk ?_
      refine C_lo (fun (l : Value → Value → Value → Value → Value → Value → M) (ρ : Nat → Value) => l (ρ 0) (ρ 1) (ρ 2) (ρ 3) (ρ 10) (ρ 11)) h (fun ρ w h => h) (fun nx self2 L2 ρ w h => ?_)
      unfold f12_b2 at h
      refine wp_seq ?_
      refine wp_seq ?_
      refine L_region ?_
      refine L_mv ?_
      refine L_mv ?_
      refine L_u (P_lnl is22 h) ?_
      intro v w h
      refine L_u (P_lt h) ?_
      intro v w h
      refine L_nil ?_
      refine E_n ?_
      refine C_cnd h (fun h => ?_) (fun h => ?_)
      · refine C_skip ?_
        refine E_n ?_
        refine wp_seq ?_
        refine C_blk ?_
        refine wp_seq ?_
        refine L_region ?_
        refine L_as ?_
        refine L_nil ?_
        refine E_n ?_
        refine C_join (fun (k : Value → Value → Value → Value → Value → Value → M) (ρ : Nat → Value) => k (ρ 0) (ρ 1) (ρ 2) (ρ 3) (ρ 10) (ρ 11)) h (fun j3 J3 h => ?_) (fun ρ w h => ?_)
        · refine C_blk ?_
          refine C_lo (fun (l : Value → Value → Value → Value → Value → Value → Value → M) (ρ : Nat → Value) => l (ρ 0) (ρ 1) (ρ 2) (ρ 3) (ρ 10) (ρ 11) (ρ 12)) h (fun ρ w h => h) (fun nx self4 L4 ρ w h => ?_)
          unfold f12_b4 at h
          refine wp_seq ?_
          refine wp_seq ?_
          refine L_region ?_
          refine L_mv ?_
          refine L_mv ?_
          refine L_u (P_lnl is22 h) ?_
          intro v w h
          refine L_u (P_lt h) ?_
          intro v w h
          refine L_nil ?_
          refine E_n ?_
          refine C_cnd h (fun h => ?_) (fun h => ?_)
          · refine C_skip ?_
            refine E_n ?_
            refine wp_seq ?_
            refine C_blk ?_
            refine wp_seq ?_
            refine D_region (by decide +kernel) 15 rfl ?_
            replace h := dr_e h
            refine G_p 0 rfl (by decide +kernel) (Y_mv h) ?_
            intro v h
            refine G_p 1 rfl (by decide +kernel) (Y_mv h) ?_
            intro v h
            refine G_p 2 rfl (by decide +kernel) (Y_ia se22 h) ?_
            intro v h
            refine G_r _ 3 rfl (by decide +kernel) (R_ld sc33 h) ?_
            intro v h
            refine G_p 4 rfl (by decide +kernel) (Y_mv h) ?_
            intro v h
            refine G_p 5 rfl (by decide +kernel) (Y_ia se33 h) ?_
            intro v h
            refine G_r _ 6 rfl (by decide +kernel) (R_ldn ag31 h) ?_
            intro v h
            refine G_p 7 rfl (by decide +kernel) (Y_mv h) ?_
            intro v h
            refine G_p 8 rfl (by decide +kernel) (Y_mv h) ?_
            intro v h
            refine G_p 9 rfl (by decide +kernel) (Y_ia se22 h) ?_
            intro v h
            refine G_r _ 10 rfl (by decide +kernel) (R_ld sc33 h) ?_
            intro v h
            refine G_p 11 rfl (by decide +kernel) (Y_mv h) ?_
            intro v h
            refine G_p 12 rfl (by decide +kernel) (Y_ia se33 h) ?_
            intro v h
            refine G_r _ 13 rfl (by decide +kernel) (R_ldn ag31 h) ?_
            intro v h
            refine G_r _ 14 rfl (by decide +kernel) (R_sm rfl h) ?_
            intro v h
            refine G_done (by decide +kernel) ?_
            refine E_n ?_
            refine C_join (fun (k : Value → Value → Value → Value → Value → Value → Value → M) (ρ : Nat → Value) => k (ρ 0) (ρ 1) (ρ 2) (ρ 3) (ρ 10) (ρ 11) (ρ 12)) h (fun j5 J5 h => ?_) (fun ρ w h => ?_)
            · refine C_cnd h (fun h => ?_) (fun h => ?_)
              · refine D_region (by decide +kernel) 14 rfl ?_
                replace h := dr_e h
                refine G_p 0 rfl (by decide +kernel) (Y_mv h) ?_
                intro v h
                refine G_p 1 rfl (by decide +kernel) (Y_mv h) ?_
                intro v h
                refine G_p 2 rfl (by decide +kernel) (Y_mv h) ?_
                intro v h
                refine G_p 3 rfl (by decide +kernel) (Y_ia se22 h) ?_
                intro v h
                refine G_r _ 4 rfl (by decide +kernel) (R_ld sc33 h) ?_
                intro v h
                refine G_p 6 rfl (by decide +kernel) (Y_mv h) ?_
                intro v h
                refine G_p 7 rfl (by decide +kernel) (Y_mv h) ?_
                intro v h
                refine G_p 8 rfl (by decide +kernel) (Y_ia se22 h) ?_
                intro v h
                refine G_r _ 9 rfl (by decide +kernel) (R_ld sc33 h) ?_
                intro v h
                refine G_e 5 rfl (by decide +kernel) (N_bi rfl h ?_)
                intro v w h
                refine ⟨keepF_cons (kp_1 h) (keepF_dep [4] (by decide +kernel) rfl keepF_nil), ?_⟩
                replace h := (kp_2 h)
                refine G_e 10 rfl (by decide +kernel) (N_bi rfl h ?_)
                intro v w h
                refine ⟨keepF_dep [9] (by decide +kernel) rfl (keepF_dep [5, 4] (by decide +kernel) rfl keepF_nil), ?_⟩
                refine G_e 11 rfl (by decide +kernel) (N_bsl h ?_)
                intro v w h
                refine ⟨keepF_dep [10, 9] (by decide +kernel) rfl (keepF_dep [10, 5, 4] (by decide +kernel) rfl keepF_nil), ?_⟩
                refine G_e 12 rfl (by decide +kernel) (N_bi rfl h ?_)
                intro v w h
                refine ⟨keepF_dep [10, 9] (by decide +kernel) rfl (keepF_dep [10, 5, 4] (by decide +kernel) rfl keepF_nil), ?_⟩
                refine G_p 13 rfl (by decide +kernel) (Y_as h) ?_
                intro v h
                refine G_done (by decide +kernel) ?_
                exact J5 _ _ h
              · refine C_skip ?_
                exact J5 _ _ h
            · unfold f12_j5 at h
              refine B_n ?_
              refine E_n ?_
              refine L_region ?_
              refine L_mv ?_
              refine L_u (P_ad h) ?_
              intro v w h
              refine L_as ?_
              refine L_nil ?_
              refine E_n ?_
              exact L4 _ _ h
          · refine C_exit ?_
            refine E_x ?_
            refine E_x ?_
            refine B_x ?_
            exact J3 _ _ h
        · unfold f12_j3 at h
          refine B_n ?_
          refine E_n ?_
          refine L_region ?_
          refine L_mv ?_
          refine L_u (P_ad h) ?_
          intro v w h
          refine L_as ?_
          refine L_nil ?_
          refine E_n ?_
          exact L2 _ _ h
      · refine C_exit ?_
        refine E_x ?_
        refine E_x ?_
        refine B_x ?_
        exact J1 _ _ h
    · unfold f12_j1 at h
      refine E_n ?_
      refine wp_seq ?_
      refine L_region ?_
      refine L_mv ?_
      refine L_as ?_
      refine L_as ?_
      refine L_nil ?_
      refine E_n ?_
      refine C_ret ?_
      show bodyPost Try.prog Try.f12 (Rt Q) .ret _ _
      exact post_tmps (ts := [8, 9]) (.inr rfl) rfl h
end Go.Proofs.Ytlmiimojgledpaa
