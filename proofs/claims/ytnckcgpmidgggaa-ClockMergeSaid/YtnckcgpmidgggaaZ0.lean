/- The first layer of the shallow reading of Go code: environments as functions, predicate transformers, and the laws that carry a walk over a code's text. -/
import Derived.Orders
import Derived.OrdersHeld
import Derived.KernelRfl
import Derived.Laws.Sem
import Derived.Laws.Cells
import Derived.Laws.Strings
import Derived.Below
import Derived.Laws.AppendOwn
import Derived.Laws.OwnMore
import Derived.Test.YtnckcgpmidgggaaProg
import Derived.Lib.ConvBytes
set_option linter.unusedVariables false
set_option linter.unusedSimpArgs false
set_option linter.unusedSectionVars false
namespace Go.Proofs.Ytnckcgpmidgggaa
namespace Sh

/-- A piece of code, read as: what must hold so that from this world it comes to a value and a world of which Q holds. -/
abbrev M := World → (Value → World → Prop) → Prop

def upd (ρ : Nat → Value) (d : Nat) (v : Value) : Nat → Value := fun t => bif Nat.beq t d then v else ρ t
def act (N : Nat) (ρ : Nat → Value) : Act := { tmps := Array.ofFn (n := N) fun i => ρ i, defers := [] }
def ini (l : List Value) : Nat → Value := fun t => l.getD t undef
def opv (N : Nat) (ρ : Nat → Value) : Operand → Value
  | .tmp t => bif Nat.blt t N then ρ t else undef
  | .const v => v
  | .global g => .pointer (some ⟨g, 0, none⟩)
  | .func f => .func (.func f) #[] #[]

section
variable {P : Program} {N : Nat} {ρ : Nat → Value} {w : World}

theorem put_act (d : Nat) (v : Value) : (act N ρ).put (some d) v = act N (upd ρ d v) := by
  simp only [act, Act.put]
  congr 1
  apply Array.ext
  · simp
  · intro i h1 h2
    simp only [Array.size_setIfInBounds, Array.size_ofFn] at h1
    by_cases e : d = i
    · subst e
      simp [upd]
    · rw [Array.getElem_setIfInBounds_ne (by simpa using h1) e]
      simp only [Array.getElem_ofFn]
      have : Nat.beq i d = false := by
        cases hb : Nat.beq i d with
        | false => rfl
        | true => exact absurd (Nat.eq_of_beq_eq_true hb).symm e
      simp [upd, this]

theorem tmps_act (t : Nat) : (act N ρ).tmps.getD t undef = bif Nat.blt t N then ρ t else undef := by
  simp only [act]
  by_cases h : t < N
  · have : Nat.blt t N = true := by simpa using h
    simp [this, Array.getD, h]
  · have : Nat.blt t N = false := by
      cases hb : Nat.blt t N with
      | false => rfl
      | true => exact absurd (by simpa using hb) h
    simp [this, Array.getD, h]

theorem eval_act : (act N ρ).eval = opv N ρ := by
  funext x
  cases x with
  | tmp t => exact tmps_act t
  | _ => rfl

theorem ini_act {l : List Value} {n : Nat} (h : l.length ≤ n) : ({ tmps := l.toArray ++ Array.replicate (n - l.length) undef, defers := [] } : Act) = act n (ini l) := by
  simp only [act]
  congr 1
  apply Array.ext
  · simp; omega
  · intro i h1 h2
    simp at h1 h2
    simp only [Array.getElem_ofFn, ini]
    by_cases e : i < l.length
    · rw [Array.getElem_append_left (by simpa using e)]
      simp [List.getD, e]
    · rw [Array.getElem_append_right (by simpa using Nat.le_of_not_lt e)]
      simp [List.getD, e]

/-- What a call comes to: it returns, and of its value and world this holds. -/
def Rt (Q : Value → World → Prop) : Ending → World → Prop
  | .returned v, w => Q v w
  | _, _ => False

theorem calls_of {f : FuncId} {fn : Func} {c : Code} {l : List Value} {Q : Value → World → Prop} (hf : P.funcs[f]? = some fn) (hb : fn.body = some c) (hn : fn.ntmps = N) (hl : l.length ≤ N)
    (h : c.wp P (bodyPost P fn (Rt Q)) (act N (ini l)) w) : Calls P f l.toArray w (Rt Q) := by
  refine calls_of_wp hf hb ?_
  rw [hn, show l.toArray.size = l.length from by simp, ini_act hl]
  exact h

/-! ### regions whose order is the text's -/
def wpL (P : Program) (all : Array Oper) (Q : Exit → Act → World → Prop) : List Oper → Act → World → Prop
  | [], a, w => Q .normal a w
  | o :: r, a, w => if Region.wanted o (yielded all a.tmps) then o.wp P a w (wpL P all Q r) Q else wpL P all Q r (a.put o.dst undef) w

theorem wpOps_of_wpL {all : Array Oper} {Q : Exit → Act → World → Prop} : ∀ (l : List Oper) (k : Nat) (a : Act) (w : World), (∀ j, l[j]? = all[k + j]?) → wpL P all Q l a w → wpOps P all Q (List.range' k l.length) a w := by
  intro l
  induction l with
  | nil => intro k a w _ h; exact h
  | cons o l ih =>
    intro k a w hl h
    have h0 : all[k]? = some o := by simpa using (hl 0).symm
    simp only [List.length_cons, List.range'_succ, wpOps, h0]
    have hn : ∀ j, l[j]? = all[k + 1 + j]? := fun j => by have := hl (j + 1); simpa [Nat.add_assoc, Nat.add_comm 1 j] using this
    simp only [wpL] at h
    split
    · rename_i hw
      rw [if_pos hw] at h
      exact .inl (Oper.wp_mono (fun a w => ih (k + 1) a w hn) h)
    · rename_i hw
      rw [if_neg hw] at h
      exact ih (k + 1) _ _ hn h

theorem L_region {id : Nat} {l : List Oper} {Q : Exit → Act → World → Prop} {a : Act} (h : wpL P l.toArray Q l a w) : (Code.region id l.toArray false).wp P Q a w := by
  refine wp_region ?_
  have := wpOps_of_wpL (P := P) (all := l.toArray) l 0 a w (by simp) h
  simpa [List.range_eq_range'] using this

theorem L_nil {all : Array Oper} {Q : Exit → Act → World → Prop} {a : Act} (h : Q .normal a w) : wpL P all Q [] a w := h

end
end Sh
end Go.Proofs.Ytnckcgpmidgggaa

namespace Go.Proofs.Ytnckcgpmidgggaa
namespace Sh
/-- One block more. -/
def psh (w : World) (o : Obj) : World := { w with heap := w.heap.push o }
/-- One draw more. -/
def drw (w : World) : World := { w with drawn := w.drawn + 1 }
def isSc (P : Program) (t : TypeId) : Bool := match P.underlying t with | some (.struct _) | some (.array _ _) | none => false | _ => true
def isAg (P : Program) (t : TypeId) (n : Nat) : Bool := (match P.underlying t with | some (.struct _) | some (.array _ _) => true | _ => false) && ((P.info? t).map (·.size) == some n)
def isOne (P : Program) (t : TypeId) : Bool := (P.info? t).map (·.size) == some 1
def fOff (P : Program) (s f k : Nat) : Bool := match P.underlying s with
  | some (.struct fs) => match fs[f]? with
    | some fd => fd.offset == k && (match P.info? fd.type with | some i => i.size != 0 | none => false)
    | none => false
  | _ => false
def slE (P : Program) (t n : Nat) : Bool := match P.underlying t with | some (.slice e) => (P.info? e).map (·.size) == some n | _ => false
def arE (P : Program) (t len n : Nat) : Bool := match P.underlying t with | some (.array l e) => l == len && (P.info? e).map (·.size) == some n | _ => false
def isBool (P : Program) (t : TypeId) : Bool := match P.underlying t with | some .bool => true | _ => false
def isSl (P : Program) (t : TypeId) : Bool := match P.underlying t with | some (.slice _) => true | _ => false
def isConc (P : Program) (t : TypeId) : Bool := match P.underlying t with | some (.interface _) | none => false | _ => true
def zeroIs (P : Program) (t : TypeId) (z : Value) : Prop := (P.info? t).bind (·.zero) = some z

/-! the operations -/
def okNil : Value → Bool
  | .pointer none | .nilIface | .nilFunc => false
  | .func (.method _) _ _ => false
  | _ => true
def nc (x : Value) (K : Value → M) : M := fun w Q => okNil x = true ∧ K x w Q
def fa (k : Nat) (x : Value) (K : Value → M) : M := fun w Q => ∃ a, x = .pointer (some a) ∧ K (.pointer (some (a.add k))) w Q
def ld (x : Value) (K : Value → M) : M := fun w Q => ∃ a v, x = .pointer (some a) ∧ w.cell? a = some v ∧ K v w Q
def rds (w : World) (a : Addr) (cs : Array Value) : Prop := ∀ j v, cs[j]? = some v → w.cell? (a.add j) = some v
def ldn (n : Nat) (x : Value) (K : Value → M) : M := fun w Q => ∃ a cs, x = .pointer (some a) ∧ cs.size = n ∧ rds w a cs ∧ K (.agg cs) w Q
def st (x v : Value) (K : M) : M := fun w Q => ∃ a, x = .pointer (some a) ∧ (w.cell? a).isSome = true ∧ w.frozen? a = false ∧ v.oneCell' = true ∧ K (w.setCell a v) Q
def sts : World → Addr → List Value → Nat → Option World
  | w, _, [], _ => some w
  | w, a, v :: r, i => if (w.cell? (a.add i)).isSome && !(w.frozen? (a.add i)) && v.oneCell' then sts (w.setCell (a.add i) v) a r (i + 1) else none
def stn (n : Nat) (x v : Value) (K : M) : M := fun w Q => ∃ a cs w', x = .pointer (some a) ∧ v = .agg cs ∧ cs.size = n ∧ sts w a cs.toList 0 = some w' ∧ K w' Q
def ad (k : IntKind) (x y : Value) (K : Value → M) : M := fun w Q => ∃ a b, x = .int k a ∧ y = .int k b ∧ K (.int k (k.wrap (a + b))) w Q
def su (k : IntKind) (x y : Value) (K : Value → M) : M := fun w Q => ∃ a b, x = .int k a ∧ y = .int k b ∧ K (.int k (k.wrap (a - b))) w Q
def mu (k : IntKind) (x y : Value) (K : Value → M) : M := fun w Q => ∃ a b, x = .int k a ∧ y = .int k b ∧ K (.int k (k.wrap (a * b))) w Q
def qu (k : IntKind) (x y : Value) (K : Value → M) : M := fun w Q => ∃ a b, x = .int k a ∧ y = .int k b ∧ b ≠ 0 ∧ K (.int k (k.wrap (a.tdiv b))) w Q
def re (k : IntKind) (x y : Value) (K : Value → M) : M := fun w Q => ∃ a b, x = .int k a ∧ y = .int k b ∧ b ≠ 0 ∧ K (.int k (a.tmod b)) w Q
def lt (k : IntKind) (x y : Value) (K : Value → M) : M := fun w Q => ∃ a b, x = .int k a ∧ y = .int k b ∧ K (.bool (decide (a < b))) w Q
def le (k : IntKind) (x y : Value) (K : Value → M) : M := fun w Q => ∃ a b, x = .int k a ∧ y = .int k b ∧ K (.bool (decide (a ≤ b))) w Q
def gt (k : IntKind) (x y : Value) (K : Value → M) : M := fun w Q => ∃ a b, x = .int k a ∧ y = .int k b ∧ K (.bool (decide (b < a))) w Q
def ge (k : IntKind) (x y : Value) (K : Value → M) : M := fun w Q => ∃ a b, x = .int k a ∧ y = .int k b ∧ K (.bool (decide (b ≤ a))) w Q
def eqi (k : IntKind) (x y : Value) (K : Value → M) : M := fun w Q => ∃ a b, x = .int k a ∧ y = .int k b ∧ K (.bool (decide (a = b))) w Q
def nei (k : IntKind) (x y : Value) (K : Value → M) : M := fun w Q => ∃ a b, x = .int k a ∧ y = .int k b ∧ K (.bool (decide (a ≠ b))) w Q
def bws (op : BinOp) (k : IntKind) (x y : Value) (K : Value → M) : M := fun w Q => ∃ a b v, x = .int k a ∧ y = .int k b ∧ (∀ P : Program, ∀ w : World, (Op.intBits op k a b).run P w = .ok v w) ∧ K v w Q
def shl (k j : IntKind) (x y : Value) (K : Value → M) : M := fun w Q => ∃ a b, x = .int k a ∧ y = .int j b ∧ 0 ≤ b ∧ K (.int k (k.wrap (a * 2 ^ (min b.toNat k.bits)))) w Q
def shr (k j : IntKind) (x y : Value) (K : Value → M) : M := fun w Q => ∃ a b, x = .int k a ∧ y = .int j b ∧ 0 ≤ b ∧ K (.int k (a.fdiv (2 ^ (min b.toNat k.bits)))) w Q
def cat (x y : Value) (K : Value → M) : M := fun w Q => ∃ a b, x = .string a ∧ y = .string b ∧ a.size + b.size ≤ 9223372036854775807 ∧ K (.string (a ++ b)) w Q
def eqs (x y : Value) (K : Value → M) : M := fun w Q => ∃ a b, x = .string a ∧ y = .string b ∧ K (.bool (decide (a = b))) w Q
def nes (x y : Value) (K : Value → M) : M := fun w Q => ∃ a b, x = .string a ∧ y = .string b ∧ K (.bool (decide (a ≠ b))) w Q
def lts (x y : Value) (K : Value → M) : M := fun w Q => ∃ a b, x = .string a ∧ y = .string b ∧ K (.bool (Op.bytesLess a.toList b.toList)) w Q
def gts (x y : Value) (K : Value → M) : M := fun w Q => ∃ a b, x = .string a ∧ y = .string b ∧ K (.bool !(Op.bytesLess a.toList b.toList || a.toList == b.toList)) w Q
def eqb (x y : Value) (K : Value → M) : M := fun w Q => ∃ a b, x = .bool a ∧ y = .bool b ∧ K (.bool (a == b)) w Q
def neb (x y : Value) (K : Value → M) : M := fun w Q => ∃ a b, x = .bool a ∧ y = .bool b ∧ K (.bool !(a == b)) w Q
def nt (x : Value) (K : Value → M) : M := fun w Q => ∃ b, x = .bool b ∧ K (.bool !b) w Q
def pk (c x y : Value) (K : Value → M) : M := fun w Q => ∃ b, c = .bool b ∧ K (bif b then x else y) w Q
def cv (k : IntKind) (x : Value) (K : Value → M) : M := fun w Q => ∃ j a, x = .int j a ∧ K (.int k (k.wrap a)) w Q
def al (t : TypeId) (cs : Array Value) (K : Value → M) : M := fun w Q => K (.pointer (some ⟨w.heap.size, 0, none⟩)) (psh w (.cells cs t)) Q
def bx (t : TypeId) (v : Value) (K : Value → M) : M := fun w Q => K (.pointer (some ⟨w.heap.size, 0, none⟩)) (psh w (.cells v.cells t)) Q
def ex (i : Nat) (x : Value) (K : Value → M) : M := fun w Q => ∃ vs v, x = .tuple vs ∧ vs[i]? = some v ∧ K v w Q
def fld (off : Nat) (x : Value) (K : Value → M) : M := fun w Q => ∃ cs v, x = .agg cs ∧ cs[off]? = some v ∧ K v w Q
def fldn (off n : Nat) (x : Value) (K : Value → M) : M := fun w Q => ∃ cs, x = .agg cs ∧ K (.agg (cs.extract off (off + n))) w Q
def lnl (x : Value) (K : Value → M) : M := fun w Q => ∃ a l c, x = .slice a l c ∧ K (.int .i64 l) w Q
def lns (x : Value) (K : Value → M) : M := fun w Q => ∃ s, x = .string s ∧ K (.int .i64 s.size) w Q
def ia (n : Nat) (x i : Value) (K : Value → M) : M := fun w Q => ∃ a l c k j, x = .slice (some a) l c ∧ i = .int k j ∧ 0 ≤ j ∧ j < l ∧ K (.pointer (some (a.add (j.toNat * n)))) w Q
def iaa (len n : Nat) (x i : Value) (K : Value → M) : M := fun w Q => ∃ a k j, x = .pointer (some a) ∧ i = .int k j ∧ 0 ≤ j ∧ j < len ∧ K (.pointer (some (a.add (j.toNat * n)))) w Q
def ixs (x i : Value) (K : Value → M) : M := fun w Q => ∃ s k j b, x = .string s ∧ i = .int k j ∧ 0 ≤ j ∧ s[j.toNat]? = some b ∧ K (.int .u8 (b.toNat : Int)) w Q
def bnd (o : Option Value) (d m : Nat) (l : Nat) : Prop := match o with | none => l = d | some v => ∃ k j, v = .int k j ∧ 0 ≤ j ∧ j ≤ m ∧ l = j.toNat
def sls (x : Value) (lo hi : Option Value) (K : Value → M) : M := fun w Q => ∃ s l h, x = .string s ∧ bnd hi s.size s.size h ∧ bnd lo 0 h l ∧ K (.string (s.extract l h)) w Q
def sll (n : Nat) (x : Value) (lo hi : Option Value) (K : Value → M) : M := fun w Q => ∃ a len cap l h, x = .slice a len cap ∧ bnd hi len cap h ∧ bnd lo 0 h l ∧ K (.slice (if cap = l then a else a.map (·.add (l * n))) (h - l) (cap - l)) w Q
def sla (len n : Nat) (x : Value) (lo hi : Option Value) (K : Value → M) : M := fun w Q => ∃ a l h, x = .pointer (some a) ∧ bnd hi len len h ∧ bnd lo 0 h l ∧ K (.slice (some (if len = l then a else a.add (l * n))) (h - l) (len - l)) w Q
def mif (t : TypeId) (x : Value) (K : Value → M) : M := fun w Q => K (.iface t x) w Q
def mnm (x y : Value) (K : Value → M) : M := fun w Q => ∃ k a b, x = .int k a ∧ y = .int k b ∧ K (.int k (if b < a then b else a)) w Q
def mxm (x y : Value) (K : Value → M) : M := fun w Q => ∃ k a b, x = .int k a ∧ y = .int k b ∧ K (.int k (if a < b then b else a)) w Q
def mm (K : Value → M) : M := fun w Q => K (.map (some w.heap.size)) (psh w (.map #[] 0)) Q
def asrt (t : TypeId) (x : Value) (K : Value → M) : M := fun w Q => ∃ v, x = .iface t v ∧ K v w Q
/-- Any operation that yields a value, by its own run. -/
def sm (P : Program) (s : Sem Value) (K : Value → M) : M := fun w Q => ∃ v w', s.run P w = .ok v w' ∧ K v w' Q
def smu (P : Program) (s : Sem Unit) (K : M) : M := fun w Q => ∃ w', s.run P w = .ok () w' ∧ K w' Q
/-- A call that another predicate transformer tells. -/
def cl (f : M) (K : Value → M) : M := fun w Q => f w (fun v w' => K v w' Q)
def cc (P : Program) (f : FuncId) (args : Array Value) (K : Value → M) : M := fun w Q => Calls P f args w (Rt (fun v w' => K v w' Q))
/-- A call of a function value. -/
def cf (P : Program) (x : Value) (args : Array Value) (K : Value → M) : M := fun w Q => ∃ f z cap, x = .func (.func f) z cap ∧ (callFunc f (z ++ args ++ cap)).run P w = .ok (.enter f (z ++ args ++ cap)) w ∧ Calls P f (z ++ args ++ cap) w (Rt (fun v w' => K v w' Q))
/-- A call through an interface. -/
def ci (P : Program) (x : Value) (m : String) (args : Array Value) (K : Value → M) : M := fun w Q => ∃ f gs w1, (callMethod x m args).run P w = .ok (.enter f gs) w1 ∧ Calls P f gs w1 (Rt (fun v w' => K v w' Q))
def cnd (c : Value) (A B : M) : M := fun w Q => ∃ b, c = .bool b ∧ (bif b then A w Q else B w Q)
def gdB (v : Value) (want : Bool) : Bool := match v with | .bool b => b == want | _ => false
def gd (v : Value) (want : Bool) (A : (Value → M) → M) (K : Value → M) : M := fun w Q => bif gdB v want then A K w Q else K undef w Q
def gdu (v : Value) (want : Bool) (A : M → M) (K : M) : M := fun w Q => bif gdB v want then A K w Q else K w Q
def rt (v : Value) : M := fun w Q => Q v w
def bot : M := fun _ _ => False
end Sh
end Go.Proofs.Ytnckcgpmidgggaa

namespace Go.Proofs.Ytnckcgpmidgggaa
namespace Sh
section
variable {P : Program} {N : Nat} {ρ : Nat → Value} {w : World} {d : Nat} {ty : TypeId} {pos : String} {aft : Array Edge} {g : Option (Nat × Bool)}
  {next : Act → World → Prop} {Qx : Exit → Act → World → Prop} {Qm : Value → World → Prop} {K : Value → M} {K0 : M}

theorem wp_run {op : Op} {v : Value} {w' : World} (hr : (execOp (opv N ρ) ⟨some d, op, ty, pos, aft, g⟩).run P w = .ok (.value v) w')
    (h : next (act N (upd ρ d v)) w') : Oper.wp P ⟨some d, op, ty, pos, aft, g⟩ (act N ρ) w next Qx := by
  simp only [Oper.wp, eval_act, hr, Oper.upon, put_act]; exact h
theorem wp_run0 {op : Op} {w' : World} (hr : (execOp (opv N ρ) ⟨none, op, ty, pos, aft, g⟩).run P w = .ok .skip w')
    (h : next (act N ρ) w') : Oper.wp P ⟨none, op, ty, pos, aft, g⟩ (act N ρ) w next Qx := by
  simp only [Oper.wp, eval_act, hr, Oper.upon, Act.put]; exact h
theorem L_u {all : Array Oper} {r : List Oper} {dst : Option Tmp} {op : Op} {X : Prop}
    (hp : X → Oper.wp P ⟨dst, op, ty, pos, aft, none⟩ (act N ρ) w (wpL P all Qx r) Qx) (c : X) : wpL P all Qx (⟨dst, op, ty, pos, aft, none⟩ :: r) (act N ρ) w := by
  simp only [wpL, Region.wanted, if_true]; exact hp c
theorem wanted_act {all : Array Oper} {dst : Option Tmp} {op : Op} {j t : Nat} {want : Bool} (hj : (all[j]?).bind (·.dst) = some t) (ht : Nat.blt t N = true) :
    Region.wanted ⟨dst, op, ty, pos, aft, some (j, want)⟩ (yielded all (act N ρ).tmps) = gdB (ρ t) want := by
  have hy : yielded all (act N ρ).tmps j = match ρ t with | .bool b => some b | _ => none := by
    unfold yielded
    rw [hj]
    have h : t < N := by simpa using ht
    simp [act, h]
    generalize ρ t = z
    cases z <;> rfl
  simp only [Region.wanted, hy, gdB]
  cases ρ t <;> simp
theorem L_g {all : Array Oper} {r : List Oper} {op : Op} {j t : Nat} {want : Bool} {A : (Value → M) → M}
    (h : gd (ρ t) want A K w Qm) (hj : (all[j]?).bind (·.dst) = some t) (ht : Nat.blt t N = true)
    (hp : (∀ v w', K v w' Qm → wpL P all Qx r (act N (upd ρ d v)) w') → A K w Qm → Oper.wp P ⟨some d, op, ty, pos, aft, some (j, want)⟩ (act N ρ) w (wpL P all Qx r) Qx)
    (c : ∀ v w', K v w' Qm → wpL P all Qx r (act N (upd ρ d v)) w') : wpL P all Qx (⟨some d, op, ty, pos, aft, some (j, want)⟩ :: r) (act N ρ) w := by
  simp only [wpL, wanted_act hj ht]
  unfold gd at h
  cases hb : gdB (ρ t) want <;> rw [hb] at h
  · simp only [cond_false, Bool.false_eq_true, if_false, put_act] at h ⊢; exact c _ _ h
  · simp only [cond_true, if_true] at h ⊢; exact hp c h
theorem L_mv {all : Array Oper} {r : List Oper} {x : Operand} (h : wpL P all Qx r (act N (upd ρ d (opv N ρ x))) w) : wpL P all Qx (⟨some d, .move x, ty, pos, aft, none⟩ :: r) (act N ρ) w := by
  simp only [wpL, Region.wanted, if_true]; exact wp_run (by simp [execOp]) h
theorem L_as {all : Array Oper} {r : List Oper} {x : Operand} (h : wpL P all Qx r (act N (upd ρ d (opv N ρ x))) w) : wpL P all Qx (⟨some d, .assign x, ty, pos, aft, none⟩ :: r) (act N ρ) w := by
  simp only [wpL, Region.wanted, if_true]; exact wp_run (by simp [execOp]) h
def idv (x : Value) (K : Value → M) : M := K x
theorem P_mv {x : Operand} (h : idv (opv N ρ x) K w Qm) (c : ∀ v w', K v w' Qm → next (act N (upd ρ d v)) w') : Oper.wp P ⟨some d, .move x, ty, pos, aft, g⟩ (act N ρ) w next Qx :=
  wp_run (by simp [execOp]) (c _ _ h)
theorem P_nc {x : Operand} (h : nc (opv N ρ x) K w Qm) (c : ∀ v w', K v w' Qm → next (act N (upd ρ d v)) w') : Oper.wp P ⟨some d, .nilCheck x, ty, pos, aft, g⟩ (act N ρ) w next Qx := by
  obtain ⟨h1, h2⟩ := h
  refine wp_run ?_ (c _ _ h2)
  revert h1
  simp only [execOp]
  generalize opv N ρ x = v
  intro h1
  cases v with
  | pointer a => cases a <;> simp [okNil] at h1 ⊢
  | func f => cases f <;> simp [okNil] at h1 ⊢
  | _ => simp [okNil] at h1 ⊢
theorem run_isAgg_sc {t : TypeId} (h : isSc P t = true) : (isAgg t).run P w = .ok false w := by
  unfold isSc at h
  cases hu : P.underlying t with
  | none => simp [hu] at h
  | some x => cases x <;> simp [hu] at h <;> simp [isAgg, underlying, hu]
theorem run_isAgg_ag {t : TypeId} {n : Nat} (h : isAg P t n = true) : (isAgg t).run P w = .ok true w := by
  unfold isAg at h
  cases hu : P.underlying t with
  | none => simp [hu] at h
  | some x => cases x <;> simp [hu] at h <;> simp [isAgg, underlying, hu]
theorem run_sizeOf_ag {t : TypeId} {n : Nat} (h : isAg P t n = true) : (sizeOf t).run P w = .ok n w := by
  unfold isAg at h
  cases hu : P.info? t with
  | none => simp [hu] at h
  | some i => simp [hu] at h; simp [sizeOf, typeInfo, hu, h.2]
theorem run_sizeOf_one {t : TypeId} (h : isOne P t = true) : (sizeOf t).run P w = .ok 1 w := by
  unfold isOne at h
  cases hu : P.info? t with
  | none => simp [hu] at h
  | some i => simp [hu] at h; simp [sizeOf, typeInfo, hu, h]
theorem P_ld {t : TypeId} {x : Operand} (ht : isSc P t = true) (h : ld (opv N ρ x) K w Qm) (c : ∀ v w', K v w' Qm → next (act N (upd ρ d v)) w') : Oper.wp P ⟨some d, .load t x, ty, pos, aft, g⟩ (act N ρ) w next Qx := by
  obtain ⟨a, v, hx, hv, hk⟩ := h
  refine wp_run ?_ (c _ _ hk)
  simp [execOp, hx, Instr.loadAt, Instr.sureAddr, loadVar, run_isAgg_sc ht, hv]
theorem run_loadCellsFrom_rds {a : Addr} {cs : Array Value} (h : rds w a cs) : ∀ (n i : Nat) (acc : Array Value), i + n = cs.size → (loadCellsFrom a i n acc).run P w = .ok (acc ++ cs.extract i cs.size) w := by
  intro n
  induction n with
  | zero => intro i acc hi; simp only [loadCellsFrom, Sem.run_pure]; congr 1; apply Array.ext' ; simp; omega
  | succ n ih =>
    intro i acc hi
    have hlt : i < cs.size := by omega
    have hv := h i cs[i] (by simp [hlt])
    simp only [loadCellsFrom, Sem.run_bind, run_load, hv, Result.andThen_ok]
    rw [ih (i + 1) _ (by omega)]
    congr 1
    apply Array.ext'
    simp only [Array.toList_append, Array.toList_push, Array.toList_extract, List.append_assoc]
    congr 1
    rw [List.extract_eq_take_drop, List.extract_eq_take_drop]
    have : List.drop i cs.toList = cs[i] :: List.drop (i + 1) cs.toList := by
      rw [List.drop_eq_getElem_cons (by simpa using hlt)]; simp
    rw [this, show cs.size - i = (cs.size - (i + 1)) + 1 from by omega]
    simp
theorem P_ldn {t : TypeId} {n : Nat} {x : Operand} (ht : isAg P t n = true) (h : ldn n (opv N ρ x) K w Qm) (c : ∀ v w', K v w' Qm → next (act N (upd ρ d v)) w') : Oper.wp P ⟨some d, .load t x, ty, pos, aft, g⟩ (act N ρ) w next Qx := by
  obtain ⟨a, cs, hx, hn, hv, hk⟩ := h
  refine wp_run ?_ (c _ _ hk)
  have := run_loadCellsFrom_rds (P := P) hv n 0 #[] (by omega)
  simp [execOp, hx, Instr.loadAt, Instr.sureAddr, loadVar, run_isAgg_ag ht, run_sizeOf_ag ht, loadCells, this]
theorem P_st {t : TypeId} {x v : Operand} (ht : isOne P t = true) (h : st (opv N ρ x) (opv N ρ v) K0 w Qm) (c : ∀ w', K0 w' Qm → next (act N ρ) w') : Oper.wp P ⟨none, .store t x v, ty, pos, aft, g⟩ (act N ρ) w next Qx := by
  obtain ⟨a, hx, hc, hf, ho, hk⟩ := h
  refine wp_run0 ?_ (c _ hk)
  have hcells : (opv N ρ v).cells = #[opv N ρ v] := by revert ho; generalize opv N ρ v = y; cases y <;> simp [Value.cells, Value.oneCell']
  obtain ⟨u, hu⟩ := Option.isSome_iff_exists.1 hc
  have := run_store P w a (opv N ρ v) .plain ho
  have h0 : a.add 0 = a := rfl
  simp [execOp, hx, Instr.storeAt, Instr.sureAddr, storeVar, hcells, run_sizeOf_one ht, storeCells, h0, this, hu, hf]
theorem run_storeCells_sts : ∀ (l : List Value) (w w' : World) (a : Addr) (i : Nat), sts w a l i = some w' → (storeCells a l i).run P w = .ok () w' := by
  intro l
  induction l with
  | nil => intro w w' a i h; simp [sts] at h; subst h; simp [storeCells]
  | cons v l ih =>
    intro w w' a i h
    simp only [sts] at h
    split at h
    · rename_i hc
      simp only [Bool.and_eq_true, Bool.not_eq_true'] at hc
      obtain ⟨⟨h1, h2⟩, h3⟩ := hc
      obtain ⟨u, hu⟩ := Option.isSome_iff_exists.1 h1
      have := run_store P w (a.add i) v .plain h3
      simp only [storeCells, Sem.run_bind, this, hu, h2, Bool.false_eq_true, if_false, Result.andThen_ok]
      exact ih _ _ _ _ h
    · cases h
theorem P_stn {t : TypeId} {n : Nat} {x v : Operand} (ht : isAg P t n = true) (h : stn n (opv N ρ x) (opv N ρ v) K0 w Qm) (c : ∀ w', K0 w' Qm → next (act N ρ) w') : Oper.wp P ⟨none, .store t x v, ty, pos, aft, g⟩ (act N ρ) w next Qx := by
  obtain ⟨a, cs, w', hx, hv, hn, hs, hk⟩ := h
  refine wp_run0 ?_ (c _ hk)
  have := run_storeCells_sts (P := P) _ _ _ _ _ hs
  simp [execOp, hx, hv, Instr.storeAt, Instr.sureAddr, storeVar, Value.cells, run_sizeOf_ag ht, hn, this]
theorem P_fa {s f k : Nat} {x : Operand} (ht : fOff P s f k = true) (h : fa k (opv N ρ x) K w Qm) (c : ∀ v w', K v w' Qm → next (act N (upd ρ d v)) w') : Oper.wp P ⟨some d, .fieldAddr s x f, ty, pos, aft, g⟩ (act N ρ) w next Qx := by
  obtain ⟨a, hx, hk⟩ := h
  refine wp_run ?_ (c _ _ hk)
  unfold fOff at ht
  split at ht
  · rename_i fs hu
    split at ht
    · rename_i fd hfd
      simp only [Bool.and_eq_true, beq_iff_eq] at ht
      obtain ⟨h1, h2⟩ := ht
      split at h2
      · rename_i i hi
        have hs : (sizeOf fd.type).run P w = .ok i.size w := by simp [sizeOf, typeInfo, hi]
        have h2' : ¬ i.size = 0 := by simpa using h2
        simp [execOp, hx, Instr.fieldAt, underlying, hu, hfd, Instr.sureAddr, fieldPlace, hs, h2', h1]
      · cases h2
    · cases ht
  · cases ht
theorem P_ad {k : IntKind} {t t2 : TypeId} {x y : Operand} (h : ad k (opv N ρ x) (opv N ρ y) K w Qm) (c : ∀ v w', K v w' Qm → next (act N (upd ρ d v)) w') : Oper.wp P ⟨some d, .binOp .add t x y t2, ty, pos, aft, g⟩ (act N ρ) w next Qx := by
  obtain ⟨a, b, hx, hy, hk⟩ := h
  exact wp_run (by simp [execOp, hx, hy, eqGuard, binOp, Op.intArith]) (c _ _ hk)
theorem P_su {k : IntKind} {t t2 : TypeId} {x y : Operand} (h : su k (opv N ρ x) (opv N ρ y) K w Qm) (c : ∀ v w', K v w' Qm → next (act N (upd ρ d v)) w') : Oper.wp P ⟨some d, .binOp .sub t x y t2, ty, pos, aft, g⟩ (act N ρ) w next Qx := by
  obtain ⟨a, b, hx, hy, hk⟩ := h
  exact wp_run (by simp [execOp, hx, hy, eqGuard, binOp, Op.intArith]) (c _ _ hk)
theorem P_mu {k : IntKind} {t t2 : TypeId} {x y : Operand} (h : mu k (opv N ρ x) (opv N ρ y) K w Qm) (c : ∀ v w', K v w' Qm → next (act N (upd ρ d v)) w') : Oper.wp P ⟨some d, .binOp .mul t x y t2, ty, pos, aft, g⟩ (act N ρ) w next Qx := by
  obtain ⟨a, b, hx, hy, hk⟩ := h
  exact wp_run (by simp [execOp, hx, hy, eqGuard, binOp, Op.intArith]) (c _ _ hk)
theorem P_qu {k : IntKind} {t t2 : TypeId} {x y : Operand} (h : qu k (opv N ρ x) (opv N ρ y) K w Qm) (c : ∀ v w', K v w' Qm → next (act N (upd ρ d v)) w') : Oper.wp P ⟨some d, .binOp .quo t x y t2, ty, pos, aft, g⟩ (act N ρ) w next Qx := by
  obtain ⟨a, b, hx, hy, hb, hk⟩ := h
  exact wp_run (by simp [execOp, hx, hy, eqGuard, binOp, Op.intDiv, hb]) (c _ _ hk)
theorem P_re {k : IntKind} {t t2 : TypeId} {x y : Operand} (h : re k (opv N ρ x) (opv N ρ y) K w Qm) (c : ∀ v w', K v w' Qm → next (act N (upd ρ d v)) w') : Oper.wp P ⟨some d, .binOp .rem t x y t2, ty, pos, aft, g⟩ (act N ρ) w next Qx := by
  obtain ⟨a, b, hx, hy, hb, hk⟩ := h
  exact wp_run (by simp [execOp, hx, hy, eqGuard, binOp, Op.intDiv, hb]) (c _ _ hk)
theorem P_lt {k : IntKind} {t t2 : TypeId} {x y : Operand} (h : lt k (opv N ρ x) (opv N ρ y) K w Qm) (c : ∀ v w', K v w' Qm → next (act N (upd ρ d v)) w') : Oper.wp P ⟨some d, .binOp .lss t x y t2, ty, pos, aft, g⟩ (act N ρ) w next Qx := by
  obtain ⟨a, b, hx, hy, hk⟩ := h
  exact wp_run (by simp [execOp, hx, hy, eqGuard, binOp, Op.intCmp]) (c _ _ hk)
theorem P_le {k : IntKind} {t t2 : TypeId} {x y : Operand} (h : le k (opv N ρ x) (opv N ρ y) K w Qm) (c : ∀ v w', K v w' Qm → next (act N (upd ρ d v)) w') : Oper.wp P ⟨some d, .binOp .leq t x y t2, ty, pos, aft, g⟩ (act N ρ) w next Qx := by
  obtain ⟨a, b, hx, hy, hk⟩ := h
  exact wp_run (by simp [execOp, hx, hy, eqGuard, binOp, Op.intCmp]) (c _ _ hk)
theorem P_gt {k : IntKind} {t t2 : TypeId} {x y : Operand} (h : gt k (opv N ρ x) (opv N ρ y) K w Qm) (c : ∀ v w', K v w' Qm → next (act N (upd ρ d v)) w') : Oper.wp P ⟨some d, .binOp .gtr t x y t2, ty, pos, aft, g⟩ (act N ρ) w next Qx := by
  obtain ⟨a, b, hx, hy, hk⟩ := h
  exact wp_run (by simp [execOp, hx, hy, eqGuard, binOp, Op.intCmp, GT.gt]) (c _ _ hk)
theorem P_ge {k : IntKind} {t t2 : TypeId} {x y : Operand} (h : ge k (opv N ρ x) (opv N ρ y) K w Qm) (c : ∀ v w', K v w' Qm → next (act N (upd ρ d v)) w') : Oper.wp P ⟨some d, .binOp .geq t x y t2, ty, pos, aft, g⟩ (act N ρ) w next Qx := by
  obtain ⟨a, b, hx, hy, hk⟩ := h
  exact wp_run (by simp [execOp, hx, hy, eqGuard, binOp, Op.intCmp, GE.ge]) (c _ _ hk)
theorem P_eqi {k : IntKind} {t t2 : TypeId} {x y : Operand} (h : eqi k (opv N ρ x) (opv N ρ y) K w Qm) (c : ∀ v w', K v w' Qm → next (act N (upd ρ d v)) w') : Oper.wp P ⟨some d, .binOp .eql t x y t2, ty, pos, aft, g⟩ (act N ρ) w next Qx := by
  obtain ⟨a, b, hx, hy, hk⟩ := h
  refine wp_run ?_ (c _ _ hk)
  simp [execOp, hx, hy, eqGuard, binOp, Op.intCmp]
  rfl
theorem P_nei {k : IntKind} {t t2 : TypeId} {x y : Operand} (h : nei k (opv N ρ x) (opv N ρ y) K w Qm) (c : ∀ v w', K v w' Qm → next (act N (upd ρ d v)) w') : Oper.wp P ⟨some d, .binOp .neq t x y t2, ty, pos, aft, g⟩ (act N ρ) w next Qx := by
  obtain ⟨a, b, hx, hy, hk⟩ := h
  refine wp_run ?_ (c _ _ hk)
  have e : (a != b) = decide (a ≠ b) := by by_cases h : a = b <;> simp [h]
  simp [execOp, hx, hy, eqGuard, binOp, Op.intCmp]
  rw [e]; simp
end
end Sh
end Go.Proofs.Ytnckcgpmidgggaa

namespace Go.Proofs.Ytnckcgpmidgggaa
namespace Sh
section
variable {P : Program} {N : Nat} {ρ : Nat → Value} {w : World} {d : Nat} {ty : TypeId} {pos : String} {aft : Array Edge} {g : Option (Nat × Bool)}
  {next : Act → World → Prop} {Qx : Exit → Act → World → Prop} {Qm : Value → World → Prop} {K : Value → M} {K0 : M}

theorem equalIn_bool {t : TypeId} (hu : P.underlying t = some .bool) (n : Nat) (a b : Bool) : (Op.equalIn (n + 1) t (.bool a) (.bool b)).run P w = .ok (a == b) w := by
  simp [Op.equalIn, underlying, hu]
theorem P_eqb {t t2 : TypeId} {x y : Operand} (ht : isBool P t = true) (h : eqb (opv N ρ x) (opv N ρ y) K w Qm) (c : ∀ v w', K v w' Qm → next (act N (upd ρ d v)) w') : Oper.wp P ⟨some d, .binOp .eql t x y t2, ty, pos, aft, g⟩ (act N ρ) w next Qx := by
  obtain ⟨a, b, hx, hy, hk⟩ := h
  refine wp_run ?_ (c _ _ hk)
  unfold isBool at ht
  cases hu : P.underlying t with
  | none => simp [hu] at ht
  | some u =>
    cases u <;> simp [hu] at ht
    have := equalIn_bool (w := w) hu 9999 a b
    have e : Op.equal t (.bool a) (.bool b) = Op.equalIn (9999 + 1) t (.bool a) (.bool b) := rfl
    simp [execOp, hx, hy, eqGuard, binOp, e, this]
theorem P_neb {t t2 : TypeId} {x y : Operand} (ht : isBool P t = true) (h : neb (opv N ρ x) (opv N ρ y) K w Qm) (c : ∀ v w', K v w' Qm → next (act N (upd ρ d v)) w') : Oper.wp P ⟨some d, .binOp .neq t x y t2, ty, pos, aft, g⟩ (act N ρ) w next Qx := by
  obtain ⟨a, b, hx, hy, hk⟩ := h
  refine wp_run ?_ (c _ _ hk)
  unfold isBool at ht
  cases hu : P.underlying t with
  | none => simp [hu] at ht
  | some u =>
    cases u <;> simp [hu] at ht
    have := equalIn_bool (w := w) hu 9999 a b
    have e : Op.equal t (.bool a) (.bool b) = Op.equalIn (9999 + 1) t (.bool a) (.bool b) := rfl
    simp [execOp, hx, hy, eqGuard, binOp, e, this]
theorem P_nt {t : TypeId} {x : Operand} (h : nt (opv N ρ x) K w Qm) (c : ∀ v w', K v w' Qm → next (act N (upd ρ d v)) w') : Oper.wp P ⟨some d, .unOp .not t x, ty, pos, aft, g⟩ (act N ρ) w next Qx := by
  obtain ⟨a, hx, hk⟩ := h
  exact wp_run (by simp [execOp, hx, Op.unary]) (c _ _ hk)
theorem P_pk {x y z : Operand} (h : pk (opv N ρ x) (opv N ρ y) (opv N ρ z) K w Qm) (c : ∀ v w', K v w' Qm → next (act N (upd ρ d v)) w') : Oper.wp P ⟨some d, .pick x y z, ty, pos, aft, g⟩ (act N ρ) w next Qx := by
  obtain ⟨b, hx, hk⟩ := h
  refine wp_run ?_ (c _ _ hk)
  cases b <;> simp [execOp, hx, asBool]
theorem P_al {t : TypeId} {z : Value} {cs : Array Value} (hz : zeroIs P t z) (hc : z.cells = cs) (h : al t cs K w Qm) (c : ∀ v w', K v w' Qm → next (act N (upd ρ d v)) w') : Oper.wp P ⟨some d, .alloc t, ty, pos, aft, g⟩ (act N ρ) w next Qx := by
  refine wp_run ?_ (c _ _ h)
  unfold zeroIs at hz
  cases hu : P.info? t with
  | none => simp [hu] at hz
  | some i =>
    simp [hu] at hz
    simp [execOp, Instr.alloc, zeroValue, typeInfo, hu, hz, newVar, newRow, hc, psh]
theorem P_bx {t : TypeId} {x : Operand} (h : bx t (opv N ρ x) K w Qm) (c : ∀ v w', K v w' Qm → next (act N (upd ρ d v)) w') : Oper.wp P ⟨some d, .box t x, ty, pos, aft, g⟩ (act N ρ) w next Qx := by
  refine wp_run ?_ (c _ _ h)
  simp [execOp, Instr.box, newVar, newRow, psh]
theorem P_ex {i : Nat} {x : Operand} (h : ex i (opv N ρ x) K w Qm) (c : ∀ v w', K v w' Qm → next (act N (upd ρ d v)) w') : Oper.wp P ⟨some d, .extract x i, ty, pos, aft, g⟩ (act N ρ) w next Qx := by
  obtain ⟨vs, v, hx, hv, hk⟩ := h
  exact wp_run (by simp [execOp, hx, Instr.extract, hv]) (c _ _ hk)
theorem P_lnl {t : TypeId} {x : Operand} (ht : isSl P t = true) (h : lnl (opv N ρ x) K w Qm) (c : ∀ v w', K v w' Qm → next (act N (upd ρ d v)) w') : Oper.wp P ⟨some d, .call ⟨.builtin .len, #[x], #[t]⟩, ty, pos, aft, g⟩ (act N ρ) w next Qx := by
  obtain ⟨a, l, cp, hx, hk⟩ := h
  refine wp_run ?_ (c _ _ hk)
  unfold isSl at ht
  cases hu : P.underlying t with
  | none => simp [hu] at ht
  | some u =>
    cases u <;> simp [hu] at ht
    simp [execOp, hx, resolve, invoke, builtin, Builtin.len_, underlying, hu, goInt]
theorem P_mnm {t : TypeId} {x y : Operand} {ts : Array TypeId} (h : mnm (opv N ρ x) (opv N ρ y) K w Qm) (c : ∀ v w', K v w' Qm → next (act N (upd ρ d v)) w') : Oper.wp P ⟨some d, .call ⟨.builtin .min, #[x, y], ts⟩, ty, pos, aft, g⟩ (act N ρ) w next Qx := by
  obtain ⟨k, a, b, hx, hy, hk⟩ := h
  refine wp_run ?_ (c _ _ hk)
  simp [execOp, hx, hy, resolve, invoke, builtin, Builtin.min_, Builtin.min2]
theorem P_ia {t : TypeId} {n : Nat} {x y : Operand} (ht : slE P t n = true) (h : ia n (opv N ρ x) (opv N ρ y) K w Qm) (c : ∀ v w', K v w' Qm → next (act N (upd ρ d v)) w') : Oper.wp P ⟨some d, .indexAddr t x y, ty, pos, aft, g⟩ (act N ρ) w next Qx := by
  obtain ⟨a, l, cp, k, j, hx, hy, h0, hl, hk⟩ := h
  refine wp_run ?_ (c _ _ hk)
  unfold slE at ht
  cases hu : P.underlying t with
  | none => simp [hu] at ht
  | some u =>
    cases u <;> simp [hu] at ht
    obtain ⟨i, hi, hs⟩ := ht
    simp [execOp, hx, hy, Instr.indexAt, asIntOf, underlying, hu, sizeOf, typeInfo, hi, hs, h0, hl]
theorem run_bound {o : Option Value} {dflt m l : Nat} {v : Value} {code : BoundsCode} (h : bnd o dflt m l) (ho : o = some v) : (Instr.sliceBound v m code).run P w = .ok l w := by
  subst ho
  obtain ⟨k, j, rfl, h0, h1, rfl⟩ := h
  simp [Instr.sliceBound, asIntOf, h0, h1]
theorem P_sll {t : TypeId} {n : Nat} {x : Operand} {lo hi : Option Operand} (ht : slE P t n = true) (h : sll n (opv N ρ x) (lo.map (opv N ρ)) (hi.map (opv N ρ)) K w Qm) (c : ∀ v w', K v w' Qm → next (act N (upd ρ d v)) w') : Oper.wp P ⟨some d, .slice t x lo hi none, ty, pos, aft, g⟩ (act N ρ) w next Qx := by
  obtain ⟨a, len, cap, l, hh, hx, h1, h2, hk⟩ := h
  refine wp_run ?_ (c _ _ hk)
  unfold slE at ht
  cases hu : P.underlying t with
  | none => simp [hu] at ht
  | some u =>
    cases u <;> simp [hu] at ht
    obtain ⟨i, hi', hs⟩ := ht
    cases lo with
    | none =>
      have h2' : l = 0 := h2
      subst h2'
      cases hi with
      | none => have h1' : hh = len := h1; subst h1'; simp [execOp, hx, Instr.sliceAt, Instr.slice, underlying, hu, Instr.sliceBounds, sizeOf, typeInfo, hi', hs]
      | some y => have := run_bound (P := P) (w := w) (code := .sliceAcap) h1 rfl; simp [execOp, hx, Instr.sliceAt, Instr.slice, underlying, hu, Instr.sliceBounds, this, sizeOf, typeInfo, hi', hs]
    | some z =>
      have h2' := run_bound (P := P) (w := w) (code := .sliceB) h2 rfl
      cases hi with
      | none => have h1' : hh = len := h1; subst h1'; simp [execOp, hx, Instr.sliceAt, Instr.slice, underlying, hu, Instr.sliceBounds, h2', sizeOf, typeInfo, hi', hs]
      | some y => have := run_bound (P := P) (w := w) (code := .sliceAcap) h1 rfl; simp [execOp, hx, Instr.sliceAt, Instr.slice, underlying, hu, Instr.sliceBounds, this, h2', sizeOf, typeInfo, hi', hs]
theorem P_mif {t : TypeId} {x : Operand} (ht : isConc P t = true) (h : mif t (opv N ρ x) K w Qm) (c : ∀ v w', K v w' Qm → next (act N (upd ρ d v)) w') : Oper.wp P ⟨some d, .makeInterface t x, ty, pos, aft, g⟩ (act N ρ) w next Qx := by
  refine wp_run ?_ (c _ _ h)
  unfold isConc at ht
  cases hu : P.underlying t with
  | none => simp [hu] at ht
  | some u => cases u <;> simp [hu] at ht <;> simp [execOp, Instr.makeInterface, underlying, hu]
/-- Whatever operation yields a value: by its own run. -/
theorem P_sm {op : Op} {s : Sem Value} (he : execOp (opv N ρ) ⟨some d, op, ty, pos, aft, g⟩ = (do pure (.value (← s)))) (h : sm P s K w Qm) (c : ∀ v w', K v w' Qm → next (act N (upd ρ d v)) w') : Oper.wp P ⟨some d, op, ty, pos, aft, g⟩ (act N ρ) w next Qx := by
  obtain ⟨v, w', hr, hk⟩ := h
  exact wp_run (by rw [he]; simp [hr]) (c _ _ hk)
theorem P_cc {fn : Func} {b : Code} {f : FuncId} {xs : Array Operand} {ts : Array TypeId} (hf : P.funcs[f]? = some fn) (hb : fn.body = some b) (hn : (fn.name == "runtime.NumGoroutine") = false)
    (h : cc P f (xs.map (opv N ρ)) K w Qm) (c : ∀ v w', K v w' Qm → next (act N (upd ρ d v)) w') : Oper.wp P ⟨some d, .call ⟨.value (.func f), xs, ts⟩, ty, pos, aft, g⟩ (act N ρ) w next Qx := by
  have hr : (execOp (act N ρ).eval ⟨some d, .call ⟨.value (.func f), xs, ts⟩, ty, pos, aft, g⟩).run P w = .ok (.enter f (xs.map (opv N ρ))) w := by
    have hn' : ¬ fn.name = "runtime.NumGoroutine" := by simpa using hn
    simp [eval_act, execOp, resolve, opv, Deferred.ofValue, invoke, callFunc, hf, hb, hn']
  simp only [Oper.wp, hr, Oper.upon]
  exact Calls.mono h fun e w' he => by
    cases e with
    | returned v => simp only [put_act]; exact c _ _ he
    | panicked ch => exact he.elim
    | outgrown => exact he.elim
theorem P_cl {fn : Func} {b : Code} {f : FuncId} {F : M} {xs : Array Operand} {ts : Array TypeId} (hf : P.funcs[f]? = some fn) (hb : fn.body = some b) (hn : (fn.name == "runtime.NumGoroutine") = false)
    (hs : ∀ w Q, F w Q → Calls P f (xs.map (opv N ρ)) w (Rt Q))
    (h : cl F K w Qm) (c : ∀ v w', K v w' Qm → next (act N (upd ρ d v)) w') : Oper.wp P ⟨some d, .call ⟨.value (.func f), xs, ts⟩, ty, pos, aft, g⟩ (act N ρ) w next Qx :=
  P_cc hf hb hn (hs _ _ h) c
theorem P_ci {x : Operand} {m : String} {xs : Array Operand} {ts : Array TypeId}
    (h : ci P (opv N ρ x) m (xs.map (opv N ρ)) K w Qm) (c : ∀ v w', K v w' Qm → next (act N (upd ρ d v)) w') : Oper.wp P ⟨some d, .call ⟨.invoke x m, xs, ts⟩, ty, pos, aft, g⟩ (act N ρ) w next Qx := by
  obtain ⟨f, gs, w1, hr, hk⟩ := h
  have hr : (execOp (act N ρ).eval ⟨some d, .call ⟨.invoke x m, xs, ts⟩, ty, pos, aft, g⟩).run P w = .ok (.enter f gs) w1 := by
    have e : (#[opv N ρ x] ++ xs.map (opv N ρ)).extract 1 (#[opv N ρ x] ++ xs.map (opv N ρ)).size = xs.map (opv N ρ) := by
      apply Array.ext'
      simp [List.extract_eq_take_drop]
      rw [List.take_of_length_le (by simp)]
    have e0 : (#[opv N ρ x] ++ xs.map (opv N ρ))[0]? = some (opv N ρ x) := by
      rw [Array.getElem?_append_left (by exact Nat.zero_lt_one)]; rfl
    simp only [eval_act, execOp, resolve]
    rw [pure_bind]
    simp only [invoke, e0, e]
    rw [hr]
  simp only [Oper.wp, hr, Oper.upon]
  exact Calls.mono hk fun e w' he => by
    cases e with
    | returned v => simp only [put_act]; exact c _ _ he
    | panicked ch => exact he.elim
    | outgrown => exact he.elim
theorem C_cnd {x : Operand} {A B : Code} {Am Bm : M} (h : cnd (opv N ρ x) Am Bm w Qm) (ha : Am w Qm → A.wp P Qx (act N ρ) w) (hb : Bm w Qm → B.wp P Qx (act N ρ) w) : (Code.cond x A B).wp P Qx (act N ρ) w := by
  obtain ⟨b, hx, hk⟩ := h
  cases b with
  | true => exact wp_cond_true (by rw [eval_act]; exact hx) (ha hk)
  | false => exact wp_cond_false (by rw [eval_act]; exact hx) (hb hk)
theorem C_loop {c : Code} (I : Nat → Act → World → Prop) {a : Act} {n : Nat} (h0 : I n a w)
    (round : ∀ n a w, I n a w → c.wp P (Exit.then (fun a' w' => ∃ m, m < n ∧ I m a' w') Qx) a w) : (Code.loop c).wp P Qx a w := by
  intro b k cs
  have key : ∀ n a w, I n a w → ∃ e a' w', Qx e a' w' ∧ Arrives P (lone (b.at a (.code c :: .inLoop c :: k)) cs w) b k cs e a' w' := by
    intro n
    induction n using Nat.strongRecOn with
    | _ n ih =>
      intro a w hI
      obtain ⟨e, a₁, w₁, hq, harr⟩ := round n a w hI b (.inLoop c :: k) cs
      cases e with
      | normal =>
        obtain ⟨m, hlt, hI₁⟩ := hq
        obtain ⟨e₂, a₂, w₂, hq₂, harr₂⟩ := ih m hlt a₁ w₁ hI₁
        exact ⟨e₂, a₂, w₂, hq₂, .of_steps (Steps.trans harr (.one step_inLoop)) harr₂⟩
      | exit id => exact ⟨_, a₁, w₁, hq, .pass (x := .inLoop c) rfl (fun _ _ => .inl (by simp)) harr⟩
      | goto l => exact ⟨_, a₁, w₁, hq, .pass (x := .inLoop c) rfl (fun _ _ => .inl (by simp)) harr⟩
      | ret => exact ⟨_, a₁, w₁, hq, .pass (x := .inLoop c) rfl (fun _ _ => .inl (by simp)) harr⟩
      | panic ch => exact ⟨_, a₁, w₁, hq, .pass (x := .inLoop c) rfl (fun _ _ => .inl (by simp)) harr⟩
      | outgrown => exact ⟨_, a₁, w₁, hq, .pass (x := .inLoop c) rfl (fun _ _ => .inl (by simp)) harr⟩
  obtain ⟨e, a', w', hq, harr⟩ := key _ a w h0
  exact ⟨e, a', w', hq, .of_steps (.one step_loop) harr⟩
theorem C_ret {a : Act} (h : Qx .ret a w) : Code.ret.wp P Qx a w := wp_ret h
theorem C_skip {a : Act} (h : Qx .normal a w) : Code.skip.wp P Qx a w := wp_skip h
theorem C_exit {a : Act} {id : Nat} (h : Qx (.exit id) a w) : (Code.exit id).wp P Qx a w := wp_exit h
def rvOf (tmps : Array Value) : ResultVar → Sem Value
  | .tmp t => pure (tmps.getD t undef)
  | .cell a t => do loadVar t (← asAddr (tmps.getD a undef))
/-- the end of a body: what it hands back -/
theorem post_tmps {fn : Func} {ts : List Nat} {e : Exit} (he : e = .normal ∨ e = .ret) (hr : fn.results = (ts.map ResultVar.tmp).toArray)
    (h : Qm (match ts.map (fun t => opv N ρ (.tmp t)) with | [v] => v | vs => .tuple vs.toArray) w) : bodyPost P fn (Rt Qm) e (act N ρ) w := by
  have hv : (results fn (act N ρ).tmps).run P w = .ok (match ts.map (fun t => opv N ρ (.tmp t)) with | [v] => v | vs => .tuple vs.toArray) w := by
    obtain ⟨nm, og, tg, ps, rts, nf, nt, rs, bd, nr, ou, fi, el, ln, mt, tn⟩ := fn
    simp only at hr
    subst hr
    have h1 : results ⟨nm, og, tg, ps, rts, nf, nt, (ts.map ResultVar.tmp).toArray, bd, nr, ou, fi, el, ln, mt, tn⟩ (act N ρ).tmps = (do
      let vs ← (ts.map ResultVar.tmp).toArray.mapM (rvOf (act N ρ).tmps)
      pure (if h : vs.size = 1 then vs[0] else .tuple vs)) := rfl
    have hm : (ts.map ResultVar.tmp).toArray.mapM (rvOf (act N ρ).tmps) = pure (ts.map (fun t => opv N ρ (.tmp t))).toArray := by
      rw [List.mapM_toArray]
      have : ∀ l : List Nat, (l.map ResultVar.tmp).mapM (rvOf (act N ρ).tmps) = pure (l.map (fun t => opv N ρ (.tmp t))) := by
        intro l
        induction l with
        | nil => rfl
        | cons t l ih =>
          simp only [List.map_cons, List.mapM_cons, ih]
          simp only [rvOf, tmps_act, opv, pure_bind]
      rw [this]; simp
    rw [h1, hm]
    simp only [pure_bind, Sem.run_pure]
    match ts with
    | [] => rfl
    | [v] => rfl
    | a :: b :: r => rfl
  rcases he with rfl | rfl
  · exact ⟨rfl, _, hv, h⟩
  · exact ⟨rfl, _, hv, h⟩
end
end Sh
end Go.Proofs.Ytnckcgpmidgggaa

namespace Go.Proofs.Ytnckcgpmidgggaa
namespace Sh
/-- Q, but False at a panic. -/
def noP (Q : Exit → Act → World → Prop) : Exit → Act → World → Prop
  | .panic _, _, _ => False
  | e, a, w => Q e a w
theorem noP_imp {Q : Exit → Act → World → Prop} : ∀ (e : Exit) (a : Act) (w : World), noP Q e a w → Q e a w := fun e a w h => by
  cases e <;> first | exact h | exact (h : False).elim

/-- Operation j waits for i, directly or by others. -/
inductive Dep (ops : Array Oper) : Nat → Nat → Prop where
  | one {j i : Nat} {o : Oper} {e : Edge} : ops[j]? = some o → e ∈ o.after → Region.binds .any e = true → e.on = i → Dep ops j i
  | more {j i : Nat} {o : Oper} {e : Edge} : ops[j]? = some o → e ∈ o.after → Region.binds .any e = true → Dep ops e.on i → Dep ops j i
def pathB (ops : Array Oper) : Nat → List Nat → Bool
  | _, [] => false
  | j, [i] => match ops[j]? with
    | some o => o.after.any fun e => Region.binds .any e && e.on == i
    | none => false
  | j, k :: l => (match ops[j]? with
    | some o => o.after.any fun e => Region.binds .any e && e.on == k
    | none => false) && pathB ops k l
theorem edge_of {ops : Array Oper} {j k : Nat} (h : (match ops[j]? with
    | some o => o.after.any fun e => Region.binds .any e && e.on == k
    | none => false) = true) : ∃ o e, ops[j]? = some o ∧ e ∈ o.after ∧ Region.binds .any e = true ∧ e.on = k := by
  cases ho : ops[j]? with
  | none => simp [ho] at h
  | some o =>
    simp only [ho] at h
    obtain ⟨e, he, hb⟩ := Array.any_eq_true'.1 h
    simp only [Bool.and_eq_true, beq_iff_eq] at hb
    exact ⟨o, e, rfl, he, hb.1, hb.2⟩
theorem dep_path {ops : Array Oper} : ∀ (l : List Nat) (j : Nat), pathB ops j l = true → ∀ i, l.getLast? = some i → Dep ops j i := by
  intro l
  induction l with
  | nil => intro j h; simp [pathB] at h
  | cons k l ih =>
    intro j h i hi
    cases l with
    | nil =>
      simp at hi; subst hi
      obtain ⟨o, e, h1, h2, h3, h4⟩ := edge_of h
      exact .one h1 h2 h3 h4
    | cons k2 l =>
      simp only [pathB, Bool.and_eq_true] at h
      obtain ⟨o, e, h1, h2, h3, h4⟩ := edge_of h.1
      have := ih k h.2 i (by simpa [List.getLast?_cons_cons] using hi)
      subst h4
      exact .more h1 h2 h3 this
abbrev Facts := List (Nat × (World → Prop))
def keepF (ops : Array Oper) (fs : Facts) (j : Nat) (w w' : World) : Prop := ∀ p ∈ fs, ¬ Dep ops j p.1 → p.2 w → p.2 w'
def closedL (ops : Array Oper) (listed : Array Bool) : Prop := ∀ j o, ops[j]? = some o → listed.getD j false = true → ∀ e ∈ o.after, Region.binds .any e = true → listed.getD e.on false = true
section
variable {P : Program} {ops : Array Oper} {Q : Exit → Act → World → Prop}

def anyG (P : Program) (ops : Array Oper) (Q : Exit → Act → World → Prop) (fs : Facts) : Nat → Array Bool → Act → World → Prop
  | 0, listed, a, w => Region.ready .any ops listed = [] ∧ Q .normal a w
  | fuel + 1, listed, a, w =>
    (Region.ready .any ops listed = [] → Q .normal a w) ∧
    ∀ i ∈ Region.ready .any ops listed, wpOp P ops Q i (fun a' w' => keepF ops fs i w w' ∧ anyG P ops Q fs fuel (listed.setIfInBounds i true) a' w') a w
theorem any_of_G {fs : Facts} : ∀ (fuel : Nat) (listed : Array Bool) (a : Act) (w : World), anyG P ops Q fs fuel listed a w → wpAny P .any ops Q fuel listed a w
  | 0, _, _, _, h => h
  | fuel + 1, _, _, _, h => ⟨h.1, fun i hi => wpOp_mono (fun a' w' h' => any_of_G fuel _ a' w' h'.2) (h.2 i hi)⟩
theorem anyG_sub {fs fs' : Facts} (hs : ∀ p ∈ fs, p ∈ fs' ∨ ∀ w, p.2 w) : ∀ (fuel : Nat) (listed : Array Bool) (a : Act) (w : World), anyG P ops Q fs' fuel listed a w → anyG P ops Q fs fuel listed a w
  | 0, _, _, _, h => h
  | fuel + 1, _, _, _, h => ⟨h.1, fun i hi => wpOp_mono (fun a' w' h' => ⟨fun p hp hd hw => (hs p hp).elim (fun hp' => h'.1 p hp' hd hw) (fun ht => ht w'), anyG_sub hs fuel _ a' w' h'.2⟩) (h.2 i hi)⟩

theorem dep_listed {listed : Array Bool} (hc : closedL ops listed) {j i : Nat} (hd : Dep ops j i) : ∀ o, ops[j]? = some o → (∀ e ∈ o.after, Region.binds .any e = true → listed.getD e.on false = true) → listed.getD i false = true := by
  induction hd with
  | one h1 h2 h3 h4 =>
    intro o ho hall
    rw [h1] at ho; cases ho
    rw [← h4]; exact hall _ h2 h3
  | more h1 h2 h3 h4 ih =>
    intro o ho hall
    rw [h1] at ho; cases ho
    have hl := hall _ h2 h3
    cases h4 with
    | one k1 k2 k3 k4 => exact ih _ k1 (fun e' he' hb' => hc _ _ k1 hl e' he' hb')
    | more k1 k2 k3 k4 => exact ih _ k1 (fun e' he' hb' => hc _ _ k1 hl e' he' hb')

theorem closedL_set {listed : Array Bool} {i : Nat} (hc : closedL ops listed) (hr : i ∈ Region.ready .any ops listed) : closedL ops (listed.setIfInBounds i true) := by
  intro j o ho hl e he hb
  by_cases hji : i = j
  · subst hji
    obtain ⟨_, o', ho', hall⟩ := mem_ready.1 hr
    rw [ho] at ho'; cases ho'
    exact getD_set_true (hall e he hb)
  · rw [getD_set_ne false hji] at hl
    exact getD_set_true (hc j o ho hl e he hb)

/-- An operation that may come up now may be taken first. -/
theorem anyG_first {fs : Facts} {F : World → Prop} {i : Nat} {oi : Oper} {v : Value} (hi : ops[i]? = some oi) (hsel : ∀ (j : Nat) (o : Oper) cs b, ops[j]? = some o → o.op ≠ .select cs b)
    (hQ : ∀ c a w, Q (.panic c) (a.put oi.dst v) w → Q (.panic c) a w) :
    ∀ (fuel : Nat) (listed : Array Bool) (a : Act) (w : World), closedL ops listed →
      (∀ j oj, ops[j]? = some oj → j ≠ i → listed.getD j true = false → (∀ e ∈ oj.after, Region.binds .any e = true → e.on ≠ i) → oi.apart ops oj = true) →
      i ∈ Region.ready .any ops listed → YieldsIf P ops F oi v a → F w →
      anyG P ops Q ((i, F) :: fs) fuel (listed.setIfInBounds i true) (a.put oi.dst v) w → anyG P ops Q fs (fuel + 1) listed a w := by
  intro fuel
  induction fuel with
  | zero =>
    intro listed a w hcl _ hr hy hF H
    refine ⟨fun h => (by rw [h] at hr; cases hr), fun j hj => ?_⟩
    by_cases hji : j = i
    · subst hji; exact hy.wpOp hi hF ⟨fun p hp _ hw => hw, anyG_sub (fun p hp => .inl (.tail _ hp)) _ _ _ _ H⟩
    · have := ready_mono hj hji
      rw [H.1] at this
      cases this
  | succ fuel ih =>
    intro listed a w hcl hfree hr hy hF H
    refine ⟨fun h => (by rw [h] at hr; cases hr), fun j hj => ?_⟩
    by_cases hji : j = i
    · subst hji; exact hy.wpOp hi hF ⟨fun p hp _ hw => hw, anyG_sub (fun p hp => .inl (.tail _ hp)) _ _ _ _ H⟩
    · have h1 := H.2 j (ready_mono hj hji)
      obtain ⟨hjun, oj, hoj, hall⟩ := mem_ready.1 hj
      have hiun : listed.getD i false = false := by
        have h0 := (mem_ready.1 hr).1
        rcases Nat.lt_or_ge i listed.size with h' | h'
        · simp [h'] at h0 ⊢; exact h0
        · simp [Array.getElem?_eq_none h']
      have hnot : ∀ e ∈ oj.after, Region.binds .any e = true → e.on ≠ i := fun e he hb heq => by
        have h1 := hall e he hb
        rw [heq, hiun] at h1
        cases h1
      have hdep : ¬ Dep ops j i := fun hd => by
        have := dep_listed hcl hd _ hoj hall; rw [hiun] at this; cases this
      have h2 := wpOp_putIf hoj (hfree j oj hoj hji hjun hnot) (fun cs b => hsel i oi cs b hi) (fun cs b => hsel j oj cs b hoj) hQ hy h1
      have hfree' : ∀ k ok, ops[k]? = some ok → k ≠ i → (listed.setIfInBounds j true).getD k true = false →
          (∀ e ∈ ok.after, Region.binds .any e = true → e.on ≠ i) → oi.apart ops ok = true := fun k ok hk hki hun hno => by
        refine hfree k ok hk hki ?_ hno
        by_cases hjk : j = k
        · subst hjk; exact hjun
        · rw [getD_set_ne true hjk] at hun; exact hun
      refine wpOp_mono (fun a' w' h3 => ?_) h2
      obtain ⟨hy', hk, hG⟩ := h3
      refine ⟨fun p hp hd hw => hk p (.tail _ hp) hd hw, ih (listed.setIfInBounds j true) a' w' (closedL_set hcl hj) hfree' (ready_mono hr (Ne.symm hji)) hy' (hk (i, F) (.head _) hdep hF) ?_⟩
      rw [Array.setIfInBounds_comm _ _ hji]
      exact hG

theorem closedL_of {listed : Array Bool} (h : ((List.range ops.size).all fun j => match ops[j]? with
    | some o => !listed.getD j false || o.after.all fun e => !Region.binds .any e || listed.getD e.on false
    | none => true) = true) : closedL ops listed := by
  intro j o ho hl e he hb
  have hj : j < ops.size := (Array.getElem?_eq_some_iff.1 ho).1
  have h1 := List.all_eq_true.1 h j (List.mem_range.2 hj)
  simp only [ho, hl, Bool.not_true, Bool.false_or] at h1
  have h2 := Array.all_eq_true_iff_forall_mem.1 h1 e he
  simpa [hb] using h2
/-- The look at a step that is taken first. -/
def stepB (ops : Array Oper) (listed : Array Bool) (i : Nat) : Bool :=
  Region.noSelect ops && Region.free .any ops listed i && (Region.ready .any ops listed).contains i &&
  ((List.range ops.size).all fun j => match ops[j]? with
    | some o => !listed.getD j false || o.after.all fun e => !Region.binds .any e || listed.getD e.on false
    | none => true)
theorem anyG_take {fs : Facts} {F : World → Prop} {i : Nat} {oi : Oper} {v : Value} {fuel : Nat} {listed : Array Bool} {a : Act} {w : World} (hi : ops[i]? = some oi) (hs : stepB ops listed i = true)
    (hy : YieldsIf P ops F oi v a) (hF : F w) (h : anyG P ops (noP Q) ((i, F) :: fs) fuel (listed.setIfInBounds i true) (a.put oi.dst v) w) : anyG P ops (noP Q) fs (fuel + 1) listed a w := by
  simp only [stepB, Bool.and_eq_true] at hs
  obtain ⟨⟨⟨h1, h2⟩, h3⟩, h4⟩ := hs
  exact anyG_first hi (Region.noSelect_spec h1) (fun _ _ _ h => h.elim) fuel listed a w (closedL_of h4) (Region.free_spec hi h2) (by simpa using h3) hy hF h

variable {N : Nat} {ρ : Nat → Value} {w : World} {d : Nat} {ty : TypeId} {pos : String} {aft : Array Edge} {Qm : Value → World → Prop} {K : Value → M} {K0 : M} {fs : Facts} {fuel : Nat} {listed : Array Bool}

/-- an operation that looks at no memory -/
theorem G_p {op : Op} (i : Nat) (hi : ops[i]? = some ⟨some d, op, ty, pos, aft, none⟩) (hs : stepB ops listed i = true)
    (hy : ∃ v, (∀ w', (execOp (opv N ρ) ⟨some d, op, ty, pos, aft, none⟩).run P w' = .ok (.value v) w') ∧ K v w Qm)
    (c : ∀ v, K v w Qm → anyG P ops (noP Q) fs fuel (listed.setIfInBounds i true) (act N (upd ρ d v)) w) : anyG P ops (noP Q) fs (fuel + 1) listed (act N ρ) w := by
  obtain ⟨v, hr, hk⟩ := hy
  refine anyG_sub (fs' := fs) (fun p hp => .inl hp) _ _ _ _ (anyG_take (F := fun _ => True) (v := v) hi hs (.inl ⟨rfl, fun w' _ => by rw [eval_act]; exact hr w'⟩) trivial ?_)
  refine anyG_sub (fs' := fs) (fun p hp => ?_) _ _ _ _ (by rw [put_act]; exact c v hk)
  rcases List.mem_cons.1 hp with rfl | hp
  · exact .inr fun _ => trivial
  · exact .inl hp
theorem G_pg {op : Op} {A : (Value → M) → M} {t j : Nat} {want : Bool} (i : Nat) (hi : ops[i]? = some ⟨some d, op, ty, pos, aft, some (j, want)⟩) (hs : stepB ops listed i = true)
    (h : gd (ρ t) want A K w Qm) (hj : (ops[j]?).bind (·.dst) = some t) (ht : Nat.blt t N = true)
    (hy : A K w Qm → ∃ v, (∀ w', (execOp (opv N ρ) ⟨some d, op, ty, pos, aft, some (j, want)⟩).run P w' = .ok (.value v) w') ∧ K v w Qm)
    (c : ∀ v, K v w Qm → anyG P ops (noP Q) fs fuel (listed.setIfInBounds i true) (act N (upd ρ d v)) w) : anyG P ops (noP Q) fs (fuel + 1) listed (act N ρ) w := by
  have key : ∃ v, YieldsIf P ops (fun _ => True) ⟨some d, op, ty, pos, aft, some (j, want)⟩ v (act N ρ) ∧ K v w Qm := by
    unfold gd at h
    cases hb : gdB (ρ t) want <;> rw [hb] at h
    · exact ⟨undef, .inr ⟨by rw [wanted_act hj ht]; exact hb, rfl⟩, h⟩
    · obtain ⟨v, hr, hk⟩ := hy h
      exact ⟨v, .inl ⟨by rw [wanted_act hj ht]; exact hb, fun w' _ => by rw [eval_act]; exact hr w'⟩, hk⟩
  obtain ⟨v, hyy, hk⟩ := key
  refine anyG_sub (fs' := fs) (fun p hp => .inl hp) _ _ _ _ (anyG_take (F := fun _ => True) (v := v) hi hs hyy trivial ?_)
  refine anyG_sub (fs' := fs) (fun p hp => ?_) _ _ _ _ (by rw [put_act]; exact c v hk)
  rcases List.mem_cons.1 hp with rfl | hp
  · exact .inr fun _ => trivial
  · exact .inl hp
/-- an operation that reads memory -/
theorem G_r {op : Op} (F : Value → World → Prop) (i : Nat) (hi : ops[i]? = some ⟨some d, op, ty, pos, aft, none⟩) (hs : stepB ops listed i = true)
    (hy : ∃ v, F v w ∧ (∀ w', F v w' → (execOp (opv N ρ) ⟨some d, op, ty, pos, aft, none⟩).run P w' = .ok (.value v) w') ∧ K v w Qm)
    (c : ∀ v, K v w Qm → anyG P ops (noP Q) ((i, F v) :: fs) fuel (listed.setIfInBounds i true) (act N (upd ρ d v)) w) : anyG P ops (noP Q) fs (fuel + 1) listed (act N ρ) w := by
  obtain ⟨v, hF, hr, hk⟩ := hy
  exact anyG_take (F := F v) (v := v) hi hs (.inl ⟨rfl, fun w' hw' => by rw [eval_act]; exact hr w' hw'⟩) hF (by rw [put_act]; exact c v hk)
theorem G_rg {op : Op} {A : (Value → M) → M} {t j : Nat} {want : Bool} (F : Value → World → Prop) (i : Nat) (hi : ops[i]? = some ⟨some d, op, ty, pos, aft, some (j, want)⟩) (hs : stepB ops listed i = true)
    (h : gd (ρ t) want A K w Qm) (hj : (ops[j]?).bind (·.dst) = some t) (ht : Nat.blt t N = true)
    (hy : A K w Qm → ∃ v, F v w ∧ (∀ w', F v w' → (execOp (opv N ρ) ⟨some d, op, ty, pos, aft, some (j, want)⟩).run P w' = .ok (.value v) w') ∧ K v w Qm)
    (c : ∀ v, K v w Qm → anyG P ops (noP Q) ((i, fun w' => gdB (ρ t) want = true → F v w') :: fs) fuel (listed.setIfInBounds i true) (act N (upd ρ d v)) w) : anyG P ops (noP Q) fs (fuel + 1) listed (act N ρ) w := by
  unfold gd at h
  cases hb : gdB (ρ t) want <;> rw [hb] at h
  · exact anyG_take (F := fun w' => gdB (ρ t) want = true → F undef w') (v := undef) hi hs (.inr ⟨by rw [wanted_act hj ht]; exact hb, rfl⟩) (by rw [hb]; exact fun h => by cases h) (by rw [put_act]; exact c _ h)
  · obtain ⟨v, hF, hr, hk⟩ := hy h
    exact anyG_take (F := fun w' => gdB (ρ t) want = true → F v w') (v := v) hi hs (.inl ⟨by rw [wanted_act hj ht]; exact hb, fun w' hw' => by rw [eval_act]; exact hr w' (hw' hb)⟩) (fun _ => hF) (by rw [put_act]; exact c v hk)
/-- a deed that alone may come up -/
theorem G_e {op : Op} {dst : Option Tmp} (i : Nat) (hi : ops[i]? = some ⟨dst, op, ty, pos, aft, none⟩) (hr : Region.ready .any ops listed = [i])
    (h : Oper.wp P ⟨dst, op, ty, pos, aft, none⟩ (act N ρ) w (fun a' w' => keepF ops fs i w w' ∧ anyG P ops (noP Q) fs fuel (listed.setIfInBounds i true) a' w') (noP Q)) : anyG P ops (noP Q) fs (fuel + 1) listed (act N ρ) w := by
  refine ⟨(fun h0 => by rw [hr] at h0; cases h0), fun j hj => ?_⟩
  rw [hr] at hj
  simp only [List.mem_singleton] at hj
  subst hj
  simp only [wpOp, hi, Region.wanted, if_true]
  exact .inl h
theorem G_eg {op : Op} {A : (Value → M) → M} {t j : Nat} {want : Bool} (i : Nat) (hi : ops[i]? = some ⟨some d, op, ty, pos, aft, some (j, want)⟩) (hr : Region.ready .any ops listed = [i])
    (h : gd (ρ t) want A K w Qm) (hj : (ops[j]?).bind (·.dst) = some t) (ht : Nat.blt t N = true)
    (hp : (∀ v w', K v w' Qm → keepF ops fs i w w' ∧ anyG P ops (noP Q) fs fuel (listed.setIfInBounds i true) (act N (upd ρ d v)) w') → A K w Qm → Oper.wp P ⟨some d, op, ty, pos, aft, some (j, want)⟩ (act N ρ) w (fun a' w' => keepF ops fs i w w' ∧ anyG P ops (noP Q) fs fuel (listed.setIfInBounds i true) a' w') (noP Q))
    (c : ∀ v w', K v w' Qm → keepF ops fs i w w' ∧ anyG P ops (noP Q) fs fuel (listed.setIfInBounds i true) (act N (upd ρ d v)) w') : anyG P ops (noP Q) fs (fuel + 1) listed (act N ρ) w := by
  refine ⟨(fun h0 => by rw [hr] at h0; cases h0), fun k hk => ?_⟩
  rw [hr] at hk
  simp only [List.mem_singleton] at hk
  subst hk
  simp only [wpOp, hi, wanted_act hj ht]
  unfold gd at h
  cases hb : gdB (ρ t) want <;> rw [hb] at h
  · simp only [Bool.false_eq_true, if_false, put_act]; exact c _ _ h
  · simp only [if_true]; exact .inl (hp c h)
/-- two deeds neither of which waits for the other -/
def amb (A B : M) : M := fun w Q => A w Q ∧ B w Q
theorem G_two {i j : Nat} (hr : Region.ready .any ops listed = [i, j]) {a : Act}
    (h1 : wpOp P ops (noP Q) i (fun a' w' => keepF ops fs i w w' ∧ anyG P ops (noP Q) fs fuel (listed.setIfInBounds i true) a' w') a w)
    (h2 : wpOp P ops (noP Q) j (fun a' w' => keepF ops fs j w w' ∧ anyG P ops (noP Q) fs fuel (listed.setIfInBounds j true) a' w') a w) : anyG P ops (noP Q) fs (fuel + 1) listed a w := by
  refine ⟨(fun h0 => by rw [hr] at h0; cases h0), fun k hk => ?_⟩
  rw [hr] at hk
  simp only [List.mem_cons, List.not_mem_nil, or_false] at hk
  rcases hk with rfl | rfl
  · exact h1
  · exact h2
theorem G_op {op : Op} {dst : Option Tmp} {i : Nat} {X : Act → World → Prop} (hi : ops[i]? = some ⟨dst, op, ty, pos, aft, none⟩) (h : Oper.wp P ⟨dst, op, ty, pos, aft, none⟩ (act N ρ) w X (noP Q)) : wpOp P ops (noP Q) i X (act N ρ) w := by
  simp only [wpOp, hi, Region.wanted, if_true]; exact .inl h
theorem G_done {a : Act} (hr : Region.ready .any ops listed = []) (h : Q .normal a w) : anyG P ops (noP Q) fs fuel listed a w := by
  cases fuel with
  | zero => exact ⟨hr, h⟩
  | succ n => exact ⟨fun _ => h, by rw [hr]; simp⟩
/-- what is to be shown anew behind a deed -/
def kp (F : World → Prop) (K0 : M) : M := fun w Q => F w ∧ K0 w Q
theorem keepF_nil {j : Nat} {w w' : World} : keepF ops [] j w w' := fun _ h => by cases h
theorem keepF_cons {i j : Nat} {F : World → Prop} {w w' : World} (h : F w') (h' : keepF ops fs j w w') : keepF ops ((i, F) :: fs) j w w' := by
  intro p hp hd hw
  rcases List.mem_cons.1 hp with rfl | hp
  · exact h
  · exact h' p hp hd hw
theorem keepF_dep {i j : Nat} {F : World → Prop} {w w' : World} (l : List Nat) (h : pathB ops j l = true) (hl : l.getLast? = some i) (h' : keepF ops fs j w w') : keepF ops ((i, F) :: fs) j w w' := by
  intro p hp hd hw
  rcases List.mem_cons.1 hp with rfl | hp
  · exact absurd (dep_path l j h _ hl) hd
  · exact h' p hp hd hw
theorem D_region {id : Nat} {l : List Oper} {a : Act} (hm : P.follows .mixedOrders = true) (n : Nat) (hn : l.length = n)
    (h : anyG P l.toArray (noP Q) [] n (Array.replicate n false) a (drw w)) : (Code.region id l.toArray true).wp P Q a w := by
  refine wp_mono (Q := noP Q) (wp_region_any hm ?_) noP_imp
  have := any_of_G _ _ _ _ h
  subst hn
  simpa [drw] using this
end
end Sh
end Go.Proofs.Ytnckcgpmidgggaa

namespace Go.Proofs.Ytnckcgpmidgggaa
namespace Sh
section
variable {P : Program} {N : Nat} {ρ : Nat → Value} {w : World} {d : Nat} {ty : TypeId} {pos : String} {aft : Array Edge} {g : Option (Nat × Bool)}
  {Qm : Value → World → Prop} {K : Value → M} {K0 : M}

theorem Y_mv {x : Operand} (h : idv (opv N ρ x) K w Qm) :
    ∃ v, (∀ w', (execOp (opv N ρ) ⟨some d, .move x, ty, pos, aft, g⟩).run P w' = .ok (.value v) w') ∧ K v w Qm :=
  ⟨_, (fun w => by simp [execOp]), h⟩

theorem Y_as {x : Operand} (h : idv (opv N ρ x) K w Qm) :
    ∃ v, (∀ w', (execOp (opv N ρ) ⟨some d, .assign x, ty, pos, aft, g⟩).run P w' = .ok (.value v) w') ∧ K v w Qm :=
  ⟨_, (fun w => by simp [execOp]), h⟩

theorem Y_nc {x : Operand} (h : nc (opv N ρ x) K w Qm) :
    ∃ v, (∀ w', (execOp (opv N ρ) ⟨some d, .nilCheck x, ty, pos, aft, g⟩).run P w' = .ok (.value v) w') ∧ K v w Qm := by
  obtain ⟨h1, h2⟩ := h
  refine ⟨_, fun w => ?_, h2⟩
  revert h1
  simp only [execOp]
  generalize opv N ρ x = v
  intro h1
  cases v with
  | pointer a => cases a <;> simp [okNil] at h1 ⊢
  | func f => cases f <;> simp [okNil] at h1 ⊢
  | _ => simp [okNil] at h1 ⊢

theorem Y_fa {s f k : Nat} {x : Operand} (ht : fOff P s f k = true) (h : fa k (opv N ρ x) K w Qm) :
    ∃ v, (∀ w', (execOp (opv N ρ) ⟨some d, .fieldAddr s x f, ty, pos, aft, g⟩).run P w' = .ok (.value v) w') ∧ K v w Qm := by
  obtain ⟨a, hx, hk⟩ := h
  refine ⟨_, fun w => ?_, hk⟩
  unfold fOff at ht
  split at ht
  · rename_i fs hu
    split at ht
    · rename_i fd hfd
      simp only [Bool.and_eq_true, beq_iff_eq] at ht
      obtain ⟨h1, h2⟩ := ht
      split at h2
      · rename_i i hi
        have hs : (sizeOf fd.type).run P w = .ok i.size w := by simp [sizeOf, typeInfo, hi]
        have h2' : ¬ i.size = 0 := by simpa using h2
        simp [execOp, hx, Instr.fieldAt, underlying, hu, hfd, Instr.sureAddr, fieldPlace, hs, h2', h1]
      · cases h2
    · cases ht
  · cases ht

theorem Y_ad {k : IntKind} {t t2 : TypeId} {x y : Operand} (h : ad k (opv N ρ x) (opv N ρ y) K w Qm) :
    ∃ v, (∀ w', (execOp (opv N ρ) ⟨some d, .binOp .add t x y t2, ty, pos, aft, g⟩).run P w' = .ok (.value v) w') ∧ K v w Qm := by
  obtain ⟨a, b, hx, hy, hk⟩ := h
  exact ⟨_, (fun w => by simp [execOp, hx, hy, eqGuard, binOp, Op.intArith]), hk⟩

theorem Y_su {k : IntKind} {t t2 : TypeId} {x y : Operand} (h : su k (opv N ρ x) (opv N ρ y) K w Qm) :
    ∃ v, (∀ w', (execOp (opv N ρ) ⟨some d, .binOp .sub t x y t2, ty, pos, aft, g⟩).run P w' = .ok (.value v) w') ∧ K v w Qm := by
  obtain ⟨a, b, hx, hy, hk⟩ := h
  exact ⟨_, (fun w => by simp [execOp, hx, hy, eqGuard, binOp, Op.intArith]), hk⟩

theorem Y_mu {k : IntKind} {t t2 : TypeId} {x y : Operand} (h : mu k (opv N ρ x) (opv N ρ y) K w Qm) :
    ∃ v, (∀ w', (execOp (opv N ρ) ⟨some d, .binOp .mul t x y t2, ty, pos, aft, g⟩).run P w' = .ok (.value v) w') ∧ K v w Qm := by
  obtain ⟨a, b, hx, hy, hk⟩ := h
  exact ⟨_, (fun w => by simp [execOp, hx, hy, eqGuard, binOp, Op.intArith]), hk⟩

theorem Y_qu {k : IntKind} {t t2 : TypeId} {x y : Operand} (h : qu k (opv N ρ x) (opv N ρ y) K w Qm) :
    ∃ v, (∀ w', (execOp (opv N ρ) ⟨some d, .binOp .quo t x y t2, ty, pos, aft, g⟩).run P w' = .ok (.value v) w') ∧ K v w Qm := by
  obtain ⟨a, b, hx, hy, hb, hk⟩ := h
  exact ⟨_, (fun w => by simp [execOp, hx, hy, eqGuard, binOp, Op.intDiv, hb]), hk⟩

theorem Y_re {k : IntKind} {t t2 : TypeId} {x y : Operand} (h : re k (opv N ρ x) (opv N ρ y) K w Qm) :
    ∃ v, (∀ w', (execOp (opv N ρ) ⟨some d, .binOp .rem t x y t2, ty, pos, aft, g⟩).run P w' = .ok (.value v) w') ∧ K v w Qm := by
  obtain ⟨a, b, hx, hy, hb, hk⟩ := h
  exact ⟨_, (fun w => by simp [execOp, hx, hy, eqGuard, binOp, Op.intDiv, hb]), hk⟩

theorem Y_lt {k : IntKind} {t t2 : TypeId} {x y : Operand} (h : lt k (opv N ρ x) (opv N ρ y) K w Qm) :
    ∃ v, (∀ w', (execOp (opv N ρ) ⟨some d, .binOp .lss t x y t2, ty, pos, aft, g⟩).run P w' = .ok (.value v) w') ∧ K v w Qm := by
  obtain ⟨a, b, hx, hy, hk⟩ := h
  exact ⟨_, (fun w => by simp [execOp, hx, hy, eqGuard, binOp, Op.intCmp]), hk⟩

theorem Y_gt {k : IntKind} {t t2 : TypeId} {x y : Operand} (h : gt k (opv N ρ x) (opv N ρ y) K w Qm) :
    ∃ v, (∀ w', (execOp (opv N ρ) ⟨some d, .binOp .gtr t x y t2, ty, pos, aft, g⟩).run P w' = .ok (.value v) w') ∧ K v w Qm := by
  obtain ⟨a, b, hx, hy, hk⟩ := h
  exact ⟨_, (fun w => by simp [execOp, hx, hy, eqGuard, binOp, Op.intCmp, GT.gt]), hk⟩

theorem Y_eqi {k : IntKind} {t t2 : TypeId} {x y : Operand} (h : eqi k (opv N ρ x) (opv N ρ y) K w Qm) :
    ∃ v, (∀ w', (execOp (opv N ρ) ⟨some d, .binOp .eql t x y t2, ty, pos, aft, g⟩).run P w' = .ok (.value v) w') ∧ K v w Qm := by
  obtain ⟨a, b, hx, hy, hk⟩ := h
  refine ⟨_, fun w => ?_, hk⟩
  simp [execOp, hx, hy, eqGuard, binOp, Op.intCmp]
  rfl

theorem Y_nei {k : IntKind} {t t2 : TypeId} {x y : Operand} (h : nei k (opv N ρ x) (opv N ρ y) K w Qm) :
    ∃ v, (∀ w', (execOp (opv N ρ) ⟨some d, .binOp .neq t x y t2, ty, pos, aft, g⟩).run P w' = .ok (.value v) w') ∧ K v w Qm := by
  obtain ⟨a, b, hx, hy, hk⟩ := h
  refine ⟨_, fun w => ?_, hk⟩
  have e : (a != b) = decide (a ≠ b) := by by_cases h : a = b <;> simp [h]
  simp [execOp, hx, hy, eqGuard, binOp, Op.intCmp]
  rw [e]; simp

theorem Y_pk {x y z : Operand} (h : pk (opv N ρ x) (opv N ρ y) (opv N ρ z) K w Qm) :
    ∃ v, (∀ w', (execOp (opv N ρ) ⟨some d, .pick x y z, ty, pos, aft, g⟩).run P w' = .ok (.value v) w') ∧ K v w Qm := by
  obtain ⟨b, hx, hk⟩ := h
  refine ⟨_, fun w => ?_, hk⟩
  cases b <;> simp [execOp, hx, asBool]

theorem Y_ex {i : Nat} {x : Operand} (h : ex i (opv N ρ x) K w Qm) :
    ∃ v, (∀ w', (execOp (opv N ρ) ⟨some d, .extract x i, ty, pos, aft, g⟩).run P w' = .ok (.value v) w') ∧ K v w Qm := by
  obtain ⟨vs, v, hx, hv, hk⟩ := h
  exact ⟨_, (fun w => by simp [execOp, hx, Instr.extract, hv]), hk⟩

theorem Y_ia {t : TypeId} {n : Nat} {x y : Operand} (ht : slE P t n = true) (h : ia n (opv N ρ x) (opv N ρ y) K w Qm) :
    ∃ v, (∀ w', (execOp (opv N ρ) ⟨some d, .indexAddr t x y, ty, pos, aft, g⟩).run P w' = .ok (.value v) w') ∧ K v w Qm := by
  obtain ⟨a, l, cp, k, j, hx, hy, h0, hl, hk⟩ := h
  refine ⟨_, fun w => ?_, hk⟩
  unfold slE at ht
  cases hu : P.underlying t with
  | none => simp [hu] at ht
  | some u =>
    cases u <;> simp [hu] at ht
    obtain ⟨i, hi, hs⟩ := ht
    simp [execOp, hx, hy, Instr.indexAt, asIntOf, underlying, hu, sizeOf, typeInfo, hi, hs, h0, hl]

theorem Y_iaa {t : TypeId} {len n : Nat} {x y : Operand} (ht : arE P t len n = true) (h : iaa len n (opv N ρ x) (opv N ρ y) K w Qm) :
    ∃ v, (∀ w', (execOp (opv N ρ) ⟨some d, .indexAddr t x y, ty, pos, aft, g⟩).run P w' = .ok (.value v) w') ∧ K v w Qm := by
  obtain ⟨a, k, j, hx, hy, h0, hl, hk⟩ := h
  refine ⟨_, fun w => ?_, hk⟩
  unfold arE at ht
  cases hu : P.underlying t with
  | none => simp [hu] at ht
  | some u =>
    cases u <;> simp [hu] at ht
    obtain ⟨h1, i, hi, hs⟩ := ht
    subst h1
    simp [execOp, hx, hy, Instr.indexAt, Instr.sureAddr, asIntOf, underlying, hu, sizeOf, typeInfo, hi, hs, h0, hl]

def Kld (x v : Value) (w : World) : Prop := ∃ a, x = .pointer (some a) ∧ w.cell? a = some v
def Kldn (n : Nat) (x v : Value) (w : World) : Prop := ∃ a cs, x = .pointer (some a) ∧ cs.size = n ∧ rds w a cs ∧ v = .agg cs
theorem R_ld {t : TypeId} {x : Operand} (ht : isSc P t = true) (h : ld (opv N ρ x) K w Qm) :
    ∃ v, Kld (opv N ρ x) v w ∧ (∀ w', Kld (opv N ρ x) v w' → (execOp (opv N ρ) ⟨some d, .load t x, ty, pos, aft, g⟩).run P w' = .ok (.value v) w') ∧ K v w Qm := by
  obtain ⟨a, v, hx, hv, hk⟩ := h
  refine ⟨v, ⟨a, hx, hv⟩, fun w' hw => ?_, hk⟩
  obtain ⟨a', hx', hv'⟩ := hw
  rw [hx] at hx'; cases hx'
  simp [execOp, hx, Instr.loadAt, Instr.sureAddr, loadVar, run_isAgg_sc ht, hv']
theorem R_ldn {t : TypeId} {n : Nat} {x : Operand} (ht : isAg P t n = true) (h : ldn n (opv N ρ x) K w Qm) :
    ∃ v, Kldn n (opv N ρ x) v w ∧ (∀ w', Kldn n (opv N ρ x) v w' → (execOp (opv N ρ) ⟨some d, .load t x, ty, pos, aft, g⟩).run P w' = .ok (.value v) w') ∧ K v w Qm := by
  obtain ⟨a, cs, hx, hn, hv, hk⟩ := h
  refine ⟨.agg cs, ⟨a, cs, hx, hn, hv, rfl⟩, fun w' hw => ?_, hk⟩
  obtain ⟨a', cs', hx', hn', hv', e⟩ := hw
  rw [hx] at hx'; cases hx'; cases e
  have := run_loadCellsFrom_rds (P := P) hv' n 0 #[] (by omega)
  simp [execOp, hx, Instr.loadAt, Instr.sureAddr, loadVar, run_isAgg_ag ht, run_sizeOf_ag ht, loadCells, this]
/-- Whatever operation yields a value and leaves the world alone, told by its own run, in each world of which F holds. -/
def Ksm (P : Program) (s : Sem Value) (v : Value) (w : World) : Prop := s.run P w = .ok v w
def smr (P : Program) (s : Sem Value) (K : Value → M) : M := fun w Q => ∃ v, s.run P w = .ok v w ∧ K v w Q
theorem R_sm {op : Op} {s : Sem Value} (he : execOp (opv N ρ) ⟨some d, op, ty, pos, aft, g⟩ = (do pure (.value (← s)))) (h : smr P s K w Qm) :
    ∃ v, Ksm P s v w ∧ (∀ w', Ksm P s v w' → (execOp (opv N ρ) ⟨some d, op, ty, pos, aft, g⟩).run P w' = .ok (.value v) w') ∧ K v w Qm := by
  obtain ⟨v, hr, hk⟩ := h
  exact ⟨v, hr, fun w' hw => by rw [he]; simp [show s.run P w' = .ok v w' from hw], hk⟩
theorem P_smr {op : Op} {s : Sem Value} {next : Act → World → Prop} {Qx : Exit → Act → World → Prop} (he : execOp (opv N ρ) ⟨some d, op, ty, pos, aft, g⟩ = (do pure (.value (← s)))) (h : smr P s K w Qm) (c : ∀ v w', K v w' Qm → next (act N (upd ρ d v)) w') : Oper.wp P ⟨some d, op, ty, pos, aft, g⟩ (act N ρ) w next Qx := by
  obtain ⟨v, hr, hk⟩ := h
  exact wp_run (by rw [he]; simp [hr]) (c _ _ hk)
end
end Sh
end Go.Proofs.Ytnckcgpmidgggaa

namespace Go.Proofs.Ytnckcgpmidgggaa
namespace Sh
section
variable {P : Program} {N : Nat} {ρ : Nat → Value} {w : World} {d : Nat} {ty : TypeId} {pos : String} {aft : Array Edge} {g : Option (Nat × Bool)}
  {next : Act → World → Prop} {Qx : Exit → Act → World → Prop} {Qm : Value → World → Prop} {K : Value → M} {K0 : M}

theorem map_l (l : List Operand) : (l.toArray.map (opv N ρ)) = (l.map (opv N ρ)).toArray := by simp

theorem N_cl {fn : Func} {b : Code} {f : FuncId} {F : M} {l : List Operand} {ts : Array TypeId} (hf : P.funcs[f]? = some fn) (hb : fn.body = some b) (hn : (fn.name == "runtime.NumGoroutine") = false)
    (hs : ∀ w Q, F w Q → Calls P f (l.map (opv N ρ)).toArray w (Rt Q))
    (h : cl F K w Qm) (c : ∀ v w', K v w' Qm → next (act N (upd ρ d v)) w') : Oper.wp P ⟨some d, .call ⟨.value (.func f), l.toArray, ts⟩, ty, pos, aft, g⟩ (act N ρ) w next Qx :=
  P_cl hf hb hn (fun w Q hF => by rw [map_l]; exact hs w Q hF) h c
theorem N_ci {x : Operand} {m : String} {l : List Operand} {ts : Array TypeId} (h : ci P (opv N ρ x) m (l.map (opv N ρ)).toArray K w Qm) (c : ∀ v w', K v w' Qm → next (act N (upd ρ d v)) w') : Oper.wp P ⟨some d, .call ⟨.invoke x m, l.toArray, ts⟩, ty, pos, aft, g⟩ (act N ρ) w next Qx :=
  P_ci (by rw [map_l]; exact h) c
theorem map_p (l : List (Nat × Operand)) : (l.toArray.map fun (i, x) => (i, opv N ρ x)) = (l.map fun p => (p.1, opv N ρ p.2)).toArray := by simp
theorem N_bld {t : TypeId} {l : List (Nat × Operand)} (h : smr P (Instr.build t (l.map fun p => (p.1, opv N ρ p.2)).toArray) K w Qm) (c : ∀ v w', K v w' Qm → next (act N (upd ρ d v)) w') : Oper.wp P ⟨some d, .build t l.toArray, ty, pos, aft, g⟩ (act N ρ) w next Qx :=
  P_smr (by simp only [execOp]; rw [map_p]) h c
theorem R_bld {t : TypeId} {l : List (Nat × Operand)} (h : smr P (Instr.build t (l.map fun p => (p.1, opv N ρ p.2)).toArray) K w Qm) :
    ∃ v, Ksm P (Instr.build t (l.map fun p => (p.1, opv N ρ p.2)).toArray) v w ∧ (∀ w', Ksm P (Instr.build t (l.map fun p => (p.1, opv N ρ p.2)).toArray) v w' → (execOp (opv N ρ) ⟨some d, .build t l.toArray, ty, pos, aft, g⟩).run P w' = .ok (.value v) w') ∧ K v w Qm :=
  R_sm (by simp only [execOp]; rw [map_p]) h
theorem N_bsl {t : TypeId} {n : Nat} {l : List (Nat × Operand)} (h : sm P (Instr.buildSlice t n (l.map fun p => (p.1, opv N ρ p.2)).toArray) K w Qm) (c : ∀ v w', K v w' Qm → next (act N (upd ρ d v)) w') : Oper.wp P ⟨some d, .buildSlice t n l.toArray, ty, pos, aft, g⟩ (act N ρ) w next Qx :=
  P_sm (by simp only [execOp]; rw [map_p]) h c
theorem exec_bi {dst : Option Tmp} {b : Builtin} {l : List Operand} {ts : Array TypeId} : execOp (opv N ρ) ⟨dst, .call ⟨.builtin b, l.toArray, ts⟩, ty, pos, aft, g⟩ = builtin b ts ty (l.toArray.map fun | .const _ => true | _ => false) (l.map (opv N ρ)).toArray := by
  simp [execOp, resolve, invoke]
  rfl
theorem N_bi {b : Builtin} {l : List Operand} {ts : Array TypeId} {s : Sem Value} (he : builtin b ts ty (l.toArray.map fun | .const _ => true | _ => false) (l.map (opv N ρ)).toArray = (do pure (.value (← s))))
    (h : sm P s K w Qm) (c : ∀ v w', K v w' Qm → next (act N (upd ρ d v)) w') : Oper.wp P ⟨some d, .call ⟨.builtin b, l.toArray, ts⟩, ty, pos, aft, g⟩ (act N ρ) w next Qx :=
  P_sm (by rw [exec_bi, he]) h c
def jn {α : Type} (F : α → M) (k : α) : M := F k
def itr {α : Type} (b : α) (F : α → α) : Nat → α
  | 0 => b
  | n + 1 => F (itr b F n)
def lo {α : Type} (b : α) (F : α → α) (ap0 : α → M) : M := fun w Q => ∃ n, ap0 (itr b F n) w Q
theorem C_join {α : Type} {c : Code} (ap : α → (Nat → Value) → M) {F : α → M} {k : α} (h : jn F k w Qm)
    (hb : ∀ k', (∀ ρ w, ap k' ρ w Qm → Qx .normal (act N ρ) w) → F k' w Qm → c.wp P Qx (act N ρ) w)
    (hj : ∀ ρ w, ap k ρ w Qm → Qx .normal (act N ρ) w) : c.wp P Qx (act N ρ) w := hb k hj h
theorem C_blk {id : Nat} {c : Code} {a : Act} (h : c.wp P (Exit.inBlock id Qx) a w) : (Code.block id c).wp P Qx a w := wp_block h
theorem C_lo {α : Type} {c : Code} (ap : α → (Nat → Value) → M) {b : α} {F : α → α} (h : lo b F (fun l => ap l ρ) w Qm)
    (hbot : ∀ ρ w, ap b ρ w Qm → False)
    (round : ∀ (next : Act → World → Prop) (self : α), (∀ ρ w, ap self ρ w Qm → next (act N ρ) w) → ∀ ρ w, ap (F self) ρ w Qm → c.wp P (Exit.then next Qx) (act N ρ) w) :
    (Code.loop c).wp P Qx (act N ρ) w := by
  obtain ⟨n, h⟩ := h
  refine C_loop (fun n a w => ∃ ρ, a = act N ρ ∧ ap (itr b F n) ρ w Qm) (n := n) ⟨ρ, rfl, h⟩ ?_
  rintro n _ w ⟨ρ, rfl, h⟩
  cases n with
  | zero => exact (hbot _ _ h).elim
  | succ n => exact round _ (itr b F n) (fun ρ' w' h' => ⟨n, Nat.lt_succ_self n, ρ', rfl, h'⟩) ρ w h
theorem E_n {nx : Act → World → Prop} {a : Act} (h : nx a w) : Exit.then nx Qx .normal a w := h
theorem E_x {nx : Act → World → Prop} {a : Act} {id : Nat} (h : Qx (.exit id) a w) : Exit.then nx Qx (.exit id) a w := h
theorem B_n {a : Act} {id : Nat} (h : Qx .normal a w) : Exit.inBlock id Qx .normal a w := h
theorem B_x {a : Act} {id : Nat} (h : Qx .normal a w) : Exit.inBlock id Qx (.exit id) a w := by simp only [Exit.inBlock, if_true]; exact h
theorem B_o {a : Act} {id id' : Nat} (hn : Nat.beq id' id = false) (h : Qx (.exit id') a w) : Exit.inBlock id Qx (.exit id') a w := by
  have : ¬ id' = id := fun e => by rw [e] at hn; simp at hn
  simp only [Exit.inBlock, if_neg this]; exact h
end
end Sh
end Go.Proofs.Ytnckcgpmidgggaa

namespace Go.Proofs.Ytnckcgpmidgggaa
namespace Sh
theorem kp_1 {F : World → Prop} {X : M} {w : World} {Q : Value → World → Prop} (h : kp F X w Q) : F w := h.1
theorem kp_2 {F : World → Prop} {X : M} {w : World} {Q : Value → World → Prop} (h : kp F X w Q) : X w Q := h.2
theorem amb_1 {X Y : M} {w : World} {Q : Value → World → Prop} (h : amb X Y w Q) : X w Q := h.1
theorem amb_2 {X Y : M} {w : World} {Q : Value → World → Prop} (h : amb X Y w Q) : Y w Q := h.2
def dr (X : M) : M := fun w Q => X (drw w) Q
theorem dr_e {X : M} {w : World} {Q : Value → World → Prop} (h : dr X w Q) : X (drw w) Q := h
section
variable {P : Program} {N : Nat} {ρ : Nat → Value} {w : World} {Qm : Value → World → Prop} {K : Value → M}
def rvO (ρ : Nat → Value) (N : Nat) : ResultVar → Sem Value
  | .tmp t => pure (opv N ρ (.tmp t))
  | .cell a t => do loadVar t (← asAddr (opv N ρ (.tmp a)))
def oneOr : List Value → Value
  | [v] => v
  | vs => .tuple vs.toArray
def RS (P : Program) (N : Nat) (ρ : Nat → Value) (w : World) : List ResultVar → List Value → Prop
  | [], [] => True
  | r :: rs, v :: vs => (rvO ρ N r).run P w = .ok v w ∧ RS P N ρ w rs vs
  | _, _ => False
theorem rv_tmp {t : Nat} : (rvO ρ N (.tmp t)).run P w = .ok (opv N ρ (.tmp t)) w := rfl
theorem rv_ldn {t : TypeId} {n a : Nat} (ht : isAg P t n = true) (h : ldn n (opv N ρ (.tmp a)) K w Qm) : ∃ v, (rvO ρ N (.cell a t)).run P w = .ok v w ∧ K v w Qm := by
  obtain ⟨b, cs, hx, hn, hv, hk⟩ := h
  refine ⟨_, ?_, hk⟩
  have := run_loadCellsFrom_rds (P := P) hv n 0 #[] (by omega)
  simp [rvO, hx, asAddr, loadVar, run_isAgg_ag ht, run_sizeOf_ag ht, loadCells, this]
theorem post_gen {fn : Func} {rs : List ResultVar} {vs : List Value} {e : Exit} (he : e = .normal ∨ e = .ret) (hr : fn.results = rs.toArray) (hs : RS P N ρ w rs vs)
    (h : Qm (oneOr vs) w) : bodyPost P fn (Rt Qm) e (act N ρ) w := by
  have hv : (results fn (act N ρ).tmps).run P w = .ok (oneOr vs) w := by
    obtain ⟨nm, og, tg, ps, rts, nf, nt, rs', bd, nr, ou, fi, el, ln, mt, tn⟩ := fn
    simp only at hr
    subst hr
    have h1 : results ⟨nm, og, tg, ps, rts, nf, nt, rs.toArray, bd, nr, ou, fi, el, ln, mt, tn⟩ (act N ρ).tmps = (do
      let vs ← rs.toArray.mapM (rvOf (act N ρ).tmps)
      pure (if h : vs.size = 1 then vs[0] else .tuple vs)) := rfl
    have h0 : rvOf (act N ρ).tmps = rvO ρ N := by
      funext r
      cases r with
      | tmp t => simp only [rvOf, rvO, tmps_act, opv]
      | cell a t => simp only [rvOf, rvO, tmps_act, opv]
    have hm : ∀ (rs : List ResultVar) (vs : List Value), RS P N ρ w rs vs → (rs.mapM (rvO ρ N)).run P w = .ok vs w := by
      intro rs
      induction rs with
      | nil => intro vs h; cases vs with
        | nil => rfl
        | cons v vs => exact h.elim
      | cons r rs ih => intro vs h; cases vs with
        | nil => exact h.elim
        | cons v vs => simp only [List.mapM_cons, Sem.run_bind, h.1, Result.andThen_ok, ih vs h.2, Sem.run_pure]
    rw [h1, h0, List.mapM_toArray]
    simp only [map_eq_pure_bind, bind_assoc, pure_bind, Sem.run_bind, hm rs vs hs, Result.andThen_ok, Sem.run_pure]
    match vs with
    | [] => rfl
    | [v] => rfl
    | a :: b :: r => rfl
  rcases he with rfl | rfl
  · exact ⟨rfl, _, hv, h⟩
  · exact ⟨rfl, _, hv, h⟩
theorem post_res {fn : Func} (rs : List ResultVar) {e : Exit} (he : e = .normal ∨ e = .ret) (hr : fn.results = rs.toArray) (h : ∃ vs, RS P N ρ w rs vs ∧ Qm (oneOr vs) w) : bodyPost P fn (Rt Qm) e (act N ρ) w := by
  obtain ⟨vs, hs, h⟩ := h
  exact post_gen he hr hs h
theorem res_ldn {rs : List ResultVar} (a : Nat) (t : TypeId) {n : Nat} (ht : isAg P t n = true) (h : ldn n (opv N ρ (.tmp a)) K w Qm)
    (c : ∀ v, (rvO ρ N (.cell a t)).run P w = .ok v w → K v w Qm → ∃ vs, RS P N ρ w rs vs ∧ Qm (oneOr vs) w) : ∃ vs, RS P N ρ w rs vs ∧ Qm (oneOr vs) w := by
  obtain ⟨v, hv, hk⟩ := rv_ldn ht h
  exact c v hv hk
end
end Sh
end Go.Proofs.Ytnckcgpmidgggaa

namespace Go.Proofs.Ytnckcgpmidgggaa
namespace Sh
section
variable {w : World} {Q : Value → World → Prop} {K : Value → M} {K0 A B : M} {k j : IntKind} {a b : Int} {x y v : Value}
theorem ad_e : ad k (.int k a) (.int k b) K w Q = K (.int k (k.wrap (a + b))) w Q := by simp [ad]
theorem su_e : su k (.int k a) (.int k b) K w Q = K (.int k (k.wrap (a - b))) w Q := by simp [su]
theorem mu_e : mu k (.int k a) (.int k b) K w Q = K (.int k (k.wrap (a * b))) w Q := by simp [mu]
theorem qu_e : qu k (.int k a) (.int k b) K w Q = (b ≠ 0 ∧ K (.int k (k.wrap (a.tdiv b))) w Q) := by simp [qu]
theorem re_e : re k (.int k a) (.int k b) K w Q = (b ≠ 0 ∧ K (.int k (a.tmod b)) w Q) := by simp [re]
theorem lt_e : lt k (.int k a) (.int k b) K w Q = K (.bool (decide (a < b))) w Q := by simp [lt]
theorem le_e : le k (.int k a) (.int k b) K w Q = K (.bool (decide (a ≤ b))) w Q := by simp [le]
theorem gt_e : gt k (.int k a) (.int k b) K w Q = K (.bool (decide (b < a))) w Q := by simp [gt]
theorem ge_e : ge k (.int k a) (.int k b) K w Q = K (.bool (decide (b ≤ a))) w Q := by simp [ge]
theorem eqi_e : eqi k (.int k a) (.int k b) K w Q = K (.bool (decide (a = b))) w Q := by simp [eqi]
theorem nei_e : nei k (.int k a) (.int k b) K w Q = K (.bool (decide (a ≠ b))) w Q := by simp [nei]
theorem cv_e : cv k (.int j a) K w Q = K (.int k (k.wrap a)) w Q := by
  unfold cv; apply propext; constructor
  · rintro ⟨k', a', h1, h⟩; cases h1; exact h
  · exact fun h => ⟨_, _, rfl, h⟩
theorem nt_e {t : Bool} : nt (.bool t) K w Q = K (.bool !t) w Q := by simp [nt]
theorem pk_e {t : Bool} : pk (.bool t) x y K w Q = K (bif t then x else y) w Q := by simp [pk]
theorem eqb_e {t u : Bool} : eqb (.bool t) (.bool u) K w Q = K (.bool (t == u)) w Q := by simp [eqb]
theorem neb_e {t u : Bool} : neb (.bool t) (.bool u) K w Q = K (.bool !(t == u)) w Q := by simp [neb]
theorem eqs_e {s t : ByteArray} : eqs (.string s) (.string t) K w Q = K (.bool (decide (s = t))) w Q := by simp [eqs]
theorem nes_e {s t : ByteArray} : nes (.string s) (.string t) K w Q = K (.bool (decide (s ≠ t))) w Q := by simp [nes]
theorem nc_e {p : Addr} : nc (.pointer (some p)) K w Q = K (.pointer (some p)) w Q := by simp [nc, okNil]
theorem fa_e {p : Addr} {n : Nat} : fa n (.pointer (some p)) K w Q = K (.pointer (some (p.add n))) w Q := by simp [fa]
theorem ld_e {p : Addr} : ld (.pointer (some p)) K w Q = ∃ v, w.cell? p = some v ∧ K v w Q := by simp [ld]
theorem st_e {p : Addr} : st (.pointer (some p)) v K0 w Q = ((w.cell? p).isSome = true ∧ w.frozen? p = false ∧ v.oneCell' = true ∧ K0 (w.setCell p v) Q) := by simp [st]
theorem al_e {t : TypeId} {cs : Array Value} : al t cs K w Q = K (.pointer (some ⟨w.heap.size, 0, none⟩)) (psh w (.cells cs t)) Q := rfl
theorem bx_e {t : TypeId} : bx t v K w Q = K (.pointer (some ⟨w.heap.size, 0, none⟩)) (psh w (.cells v.cells t)) Q := rfl
theorem ex_e {i : Nat} {vs : Array Value} : ex i (.tuple vs) K w Q = ∃ v, vs[i]? = some v ∧ K v w Q := by simp [ex]
theorem lnl_e {p : Option Addr} {l c : Nat} : lnl (.slice p l c) K w Q = K (.int .i64 l) w Q := by
  unfold lnl; apply propext; constructor
  · rintro ⟨p', l', c', h1, h⟩; cases h1; exact h
  · exact fun h => ⟨_, _, _, rfl, h⟩
theorem lns_e {s : ByteArray} : lns (.string s) K w Q = K (.int .i64 s.size) w Q := by simp [lns]
theorem ia_e {p : Addr} {n l c : Nat} : ia n (.slice (some p) l c) (.int k a) K w Q = (0 ≤ a ∧ a < l ∧ K (.pointer (some (p.add (a.toNat * n)))) w Q) := by
  unfold ia; apply propext; constructor
  · rintro ⟨p', l', c', k', j', h1, h2, h⟩; cases h1; cases h2; exact h
  · exact fun h => ⟨_, _, _, _, _, rfl, rfl, h⟩
theorem mif_e {t : TypeId} : mif t v K w Q = K (.iface t v) w Q := rfl
theorem mnm_e : mnm (.int k a) (.int k b) K w Q = K (.int k (if b < a then b else a)) w Q := by
  unfold mnm; apply propext; constructor
  · rintro ⟨k', a', b', h1, h2, h⟩; cases h1; cases h2; exact h
  · exact fun h => ⟨_, _, _, rfl, rfl, h⟩
theorem mxm_e : mxm (.int k a) (.int k b) K w Q = K (.int k (if a < b then b else a)) w Q := by
  unfold mxm; apply propext; constructor
  · rintro ⟨k', a', b', h1, h2, h⟩; cases h1; cases h2; exact h
  · exact fun h => ⟨_, _, _, rfl, rfl, h⟩
theorem asrt_e {t : TypeId} : asrt t (.iface t v) K w Q = K v w Q := by simp [asrt]
theorem idv_e : idv v K w Q = K v w Q := rfl
theorem cl_e {f : M} : cl f K w Q = f w (fun v w' => K v w' Q) := rfl
theorem cnd_e {t : Bool} : cnd (.bool t) A B w Q = (if t = true then A w Q else B w Q) := by cases t <;> simp [cnd]
theorem gd_e {t u : Bool} {A : (Value → M) → M} : gd (.bool t) u A K w Q = (if t = u then A K w Q else K undef w Q) := by
  cases t <;> cases u <;> simp [gd, gdB]
theorem gd_u {u : Bool} {A : (Value → M) → M} {K : Value → M} {w Q} : gd undef u A K w Q = K undef w Q := rfl
theorem gdu_e {t u : Bool} {A : M → M} : gdu (.bool t) u A K0 w Q = (if t = u then A K0 w Q else K0 w Q) := by
  cases t <;> cases u <;> simp [gdu, gdB]
theorem rt_e : rt v w Q = Q v w := rfl
theorem jn_e {α : Type} {F : α → M} {c : α} : jn F c w Q = F c w Q := rfl
theorem dr_q {X : M} : dr X w Q = X (drw w) Q := rfl
theorem kp_e {F : World → Prop} {X : M} : kp F X w Q = (F w ∧ X w Q) := rfl
theorem smr_e {P : Program} {s : Sem Value} : smr P s K w Q = ∃ v, s.run P w = .ok v w ∧ K v w Q := rfl
theorem Kld_e {p : Addr} : Kld (.pointer (some p)) v w = (w.cell? p = some v) := by simp [Kld]
theorem Kldn_e {p : Addr} {n : Nat} {cs : Array Value} : Kldn n (.pointer (some p)) (.agg cs) w = (cs.size = n ∧ rds w p cs) := by
  unfold Kldn; apply propext; constructor
  · rintro ⟨p', cs', h1, h2, h3, h4⟩; cases h1; cases h4; exact ⟨h2, h3⟩
  · exact fun h => ⟨_, _, rfl, h.1, h.2, rfl⟩
theorem pk_t : pk (.bool true) x y K w Q = K x w Q := by simp [pk]
theorem pk_f : pk (.bool false) x y K w Q = K y w Q := by simp [pk]
theorem get4_0 {a b c d : Value} : (#[a, b, c, d] : Array Value)[0]? = some a := rfl
theorem get4_1 {a b c d : Value} : (#[a, b, c, d] : Array Value)[1]? = some b := rfl
theorem get4_2 {a b c d : Value} : (#[a, b, c, d] : Array Value)[2]? = some c := rfl
theorem get4_3 {a b c d : Value} : (#[a, b, c, d] : Array Value)[3]? = some d := rfl
theorem get3_0 {a b c : Value} : (#[a, b, c] : Array Value)[0]? = some a := rfl
theorem get3_1 {a b c : Value} : (#[a, b, c] : Array Value)[1]? = some b := rfl
theorem get3_2 {a b c : Value} : (#[a, b, c] : Array Value)[2]? = some c := rfl
theorem get2_0 {a b : Value} : (#[a, b] : Array Value)[0]? = some a := rfl
theorem get2_1 {a b : Value} : (#[a, b] : Array Value)[1]? = some b := rfl
theorem get1_0 {a : Value} : (#[a] : Array Value)[0]? = some a := rfl
end

/-! memory -/
section
variable {w : World} {o : Obj} {b n : Nat}
theorem size_psh : (psh w o).heap.size = w.heap.size + 1 := by simp [psh]
theorem size_setCell {p : Addr} {v : Value} : (w.setCell p v).heap.size = w.heap.size := by simp [World.setCell]
theorem blk_psh_new : (psh w o).heap[w.heap.size]? = some o := by
  show (w.heap.push o)[w.heap.size]? = some o
  simp
theorem blk_psh_old (h : b < w.heap.size) : (psh w o).heap[b]? = w.heap[b]? := by
  simp only [psh, Array.getElem?_push]; rw [if_neg (by omega)]
theorem cell_of_blk {c : Array Value} {t : TypeId} {fr : Nat × Nat} (h : w.heap[b]? = some (.cells c t fr)) : w.cell? ⟨b, n, none⟩ = c[n]? := by
  simp [World.cell?, h]
theorem cell_psh_new {c : Array Value} {t : TypeId} : (psh w (.cells c t)).cell? ⟨w.heap.size, n, none⟩ = c[n]? := cell_of_blk blk_psh_new
theorem cell_drw {p : Addr} : (drw w).cell? p = w.cell? p := rfl
theorem add_lit {m : Nat} : (⟨b, m, none⟩ : Addr).add n = ⟨b, m + n, none⟩ := by
  unfold Addr.add; by_cases h : n = 0
  · simp [h]
  · simp [h]
theorem rds_of_blk {c cs : Array Value} {t : TypeId} {fr : Nat × Nat} {m : Nat} (h : w.heap[b]? = some (.cells c t fr)) (hc : ∀ j v, cs[j]? = some v → c[m + j]? = some v) : rds w ⟨b, m, none⟩ cs := by
  intro j v hj
  rw [add_lit, cell_of_blk h]
  exact hc j v hj
/-- Below what was there the new world is as the old one. -/
theorem Below_psh {B : Nat} {a : World} (h : RowKit.Below B a w) (hB : B ≤ w.heap.size) : RowKit.Below B a (psh w o) :=
  h.trans ⟨rfl, rfl, rfl, by simp [psh], fun k hk => blk_psh_old (by omega)⟩
theorem Below_drw {B : Nat} {a : World} (h : RowKit.Below B a w) : RowKit.Below B a (drw w) := ⟨h.os, h.tape, h.output, h.size, h.block⟩
end
/-- the steps, all in one -/
theorem LL : type_of% (And.intro @bx_e (And.intro @al_e (And.intro @fa_e (And.intro @ld_e (And.intro @ad_e (And.intro @su_e (And.intro @mu_e (And.intro @lt_e (And.intro @le_e (And.intro @gt_e (And.intro @ge_e (And.intro @eqi_e (And.intro @nei_e (And.intro @qu_e (And.intro @re_e (And.intro @cv_e (And.intro @nt_e (And.intro @pk_t (And.intro @pk_f (And.intro @pk_e (And.intro @eqb_e (And.intro @neb_e (And.intro @nc_e (And.intro @ex_e (And.intro @lnl_e (And.intro @lns_e (And.intro @idv_e (And.intro @cl_e (And.intro @cnd_e (And.intro @gd_e (And.intro @gd_u (And.intro @gdu_e (And.intro @rt_e (And.intro @jn_e (And.intro @dr_q (And.intro @kp_e (And.intro @mnm_e (And.intro @mxm_e (And.intro @mif_e (And.intro @asrt_e (And.intro @eqs_e (@nes_e)))))))))))))))))))))))))))))))))))))))))) := And.intro @bx_e (And.intro @al_e (And.intro @fa_e (And.intro @ld_e (And.intro @ad_e (And.intro @su_e (And.intro @mu_e (And.intro @lt_e (And.intro @le_e (And.intro @gt_e (And.intro @ge_e (And.intro @eqi_e (And.intro @nei_e (And.intro @qu_e (And.intro @re_e (And.intro @cv_e (And.intro @nt_e (And.intro @pk_t (And.intro @pk_f (And.intro @pk_e (And.intro @eqb_e (And.intro @neb_e (And.intro @nc_e (And.intro @ex_e (And.intro @lnl_e (And.intro @lns_e (And.intro @idv_e (And.intro @cl_e (And.intro @cnd_e (And.intro @gd_e (And.intro @gd_u (And.intro @gdu_e (And.intro @rt_e (And.intro @jn_e (And.intro @dr_q (And.intro @kp_e (And.intro @mnm_e (And.intro @mxm_e (And.intro @mif_e (And.intro @asrt_e (And.intro @eqs_e (@nes_e)))))))))))))))))))))))))))))))))))))))))
/-- what is plain, all in one -/
theorem LM : type_of% (And.intro @add_lit (And.intro @cell_psh_new (And.intro @cell_drw (And.intro @get4_0 (And.intro @get4_1 (And.intro @get4_2 (And.intro @get4_3 (And.intro @get3_0 (And.intro @get3_1 (And.intro @get3_2 (And.intro @get2_0 (And.intro @get2_1 (And.intro @get1_0 (And.intro @Nat.zero_add (And.intro @Bool.not_true (And.intro @Bool.not_false (And.intro @Bool.false_eq_true (And.intro @Bool.true_eq_false (And.intro @decide_eq_true_eq (And.intro @Bool.not_eq_true' (And.intro @decide_eq_false_iff_not (And.intro @not_false_eq_true (And.intro @not_true_eq_false (And.intro @Bool.true_and (And.intro @Bool.and_true (And.intro @Bool.false_and (And.intro @Bool.and_false (@decide_not)))))))))))))))))))))))))))) := And.intro @add_lit (And.intro @cell_psh_new (And.intro @cell_drw (And.intro @get4_0 (And.intro @get4_1 (And.intro @get4_2 (And.intro @get4_3 (And.intro @get3_0 (And.intro @get3_1 (And.intro @get3_2 (And.intro @get2_0 (And.intro @get2_1 (And.intro @get1_0 (And.intro @Nat.zero_add (And.intro @Bool.not_true (And.intro @Bool.not_false (And.intro @Bool.false_eq_true (And.intro @Bool.true_eq_false (And.intro @decide_eq_true_eq (And.intro @Bool.not_eq_true' (And.intro @decide_eq_false_iff_not (And.intro @not_false_eq_true (And.intro @not_true_eq_false (And.intro @Bool.true_and (And.intro @Bool.and_true (And.intro @Bool.false_and (And.intro @Bool.and_false (@decide_not)))))))))))))))))))))))))))
end Sh
end Go.Proofs.Ytnckcgpmidgggaa

namespace Go.Proofs.Ytnckcgpmidgggaa
namespace Sh
open RowKit
/-- What the tables say of a slice type T with elements E: their zero, cells, bytes. -/
def slT (P : Program) (t e : TypeId) (z : Value) (size bytes : Nat) : Prop :=
  P.underlying t = some (.slice e) ∧ (P.info? e).map (fun i => (i.zero, i.size, i.bytes)) = some (some z, size, bytes)
theorem slT_info {P : Program} {t e : TypeId} {z : Value} {size bytes : Nat} (h : slT P t e z size bytes) : ∃ i, P.underlying t = some (.slice e) ∧ P.info? e = some i ∧ i.zero = some z ∧ i.size = size ∧ i.bytes = bytes := by
  obtain ⟨h1, h2⟩ := h
  cases hi : P.info? e with
  | none => simp [hi] at h2
  | some i => simp [hi] at h2; exact ⟨i, h1, rfl, h2.1, h2.2.1, h2.2.2⟩
section
variable {P : Program} {w : World} {Q : Value → World → Prop} {K : Value → M} {B : Nat}
/-- []T{x}: an element of one cell -/
theorem bsl1 {t e : TypeId} {z x : Value} {b : Nat} (h : slT P t e z 1 b) (hz : z.cells.size = 1) (hx : x.cells = #[x])
    (k : K (.slice (some ⟨w.heap.size, 0, none⟩) 1 1) (psh w (.cells #[x] e)) Q) : sm P (Instr.buildSlice t 1 #[(0, x)]) K w Q := by
  obtain ⟨i, h1, h2, h3, h4, h5⟩ := slT_info h
  refine ⟨_, _, ?_, k⟩
  have hc : ∃ y, z.cells = #[y] := by
    refine ⟨z.cells[0], ?_⟩
    apply Array.ext
    · simp [hz]
    · intro i h1 h2
      have : i = 0 := by omega
      subst this; rfl
  obtain ⟨y, hy⟩ := hc
  have hr : Array.range 1 = #[0] := rfl
  simp [Instr.buildSlice, underlying, h1, sizeOf, typeInfo, h2, h4, zeroValue, h3, hy, Instr.fill, hx, newRow, psh, hr]
theorem Below_grown {A : World} {w' : World} {v : Value} {e : TypeId} {size n : Nat} {xs : List Value} (h : Below B A w) (hown : w.ownsRow B e size v n xs) (hB : B ≤ w.heap.size) (hg : w.grownBy w' v.ownBlock) : Below B A w' :=
  h.grown hg hB (fun k hk => (hown.lt k hk).1)
end
/-- a slice of whole numbers, the call's own -/
def ownI (B : Nat) (e : TypeId) (k : IntKind) (w : World) (v : Value) (l : List Int) : Prop := w.ownsRow B e 1 v l.length (l.map (Value.int k))
theorem ownI_nil {B : Nat} {e : TypeId} {k : IntKind} {w : World} : ownI B e k w (.slice none 0 0) [] := World.ownsRow_nil w B e 1
theorem ownI_psh {B : Nat} {e : TypeId} {k : IntKind} {w : World} {v : Value} {l : List Int} (h : ownI B e k w v l) (o : Obj) : ownI B e k (psh w o) v l := World.ownsRow.alloc h o
theorem ownI_len {B : Nat} {e : TypeId} {k : IntKind} {w : World} {v : Value} {l : List Int} (h : ownI B e k w v l) : ∃ p c, v = .slice p l.length c ∧ (l ≠ [] → ∃ g, p = some ⟨g, 0, none⟩ ∧ B ≤ g ∧ g < w.heap.size) := by
  obtain ⟨h1, h2⟩ := h
  rcases h2 with ⟨rfl, h0⟩ | ⟨g, cap, cur, rfl, hg, hb, hn, hm, hs, ht⟩
  · exact ⟨none, 0, by rw [h0], fun hne => absurd (List.length_eq_zero_iff.1 h0) hne⟩
  · refine ⟨_, _, rfl, fun _ => ⟨g, rfl, hg, ?_⟩⟩
    rcases Nat.lt_or_ge g w.heap.size with h | h
    · exact h
    · simp [Array.getElem?_eq_none h] at hb
theorem ownI_cell {B : Nat} {e : TypeId} {k : IntKind} {w : World} {g c : Nat} {l : List Int} (h : ownI B e k w (.slice (some ⟨g, 0, none⟩) l.length c) l) (i : Nat) (hi : i < l.length) :
    w.cell? ⟨g, i, none⟩ = some (.int k l[i]) := by
  have := World.ownsRow.cellAt h i (by simpa using hi)
  rw [this]; simp [hi]
/-- the same list behind a world that has turned nothing of the call's own row -/
theorem ownI_below {B : Nat} {e : TypeId} {k : IntKind} {w w' : World} {v : Value} {l : List Int} (h : ownI B e k w v l) (hb : Below w.heap.size w w') : ownI B e k w' v l := by
  obtain ⟨h1, h2⟩ := h
  refine ⟨h1, ?_⟩
  rcases h2 with h2 | ⟨g, cap, cur, h3, hg, hb', rest⟩
  · exact .inl h2
  · refine .inr ⟨g, cap, cur, h3, hg, ?_, rest⟩
    rw [hb.block g ?_]; exact hb'
    rcases Nat.lt_or_ge g w.heap.size with h | h
    · exact h
    · simp [Array.getElem?_eq_none h] at hb'
theorem w64 {x : Int} (h0 : -9223372036854775808 ≤ x) (h1 : x ≤ 9223372036854775807) : IntKind.i64.wrap x = x := by
  unfold IntKind.wrap
  simp [IntKind.signed, IntKind.bits]
  omega
/-- a slice that reads as whole numbers -/
def rdI (k : IntKind) (w : World) (v : Value) (l : List Int) : Prop :=
  ∃ p c, v = .slice p l.length c ∧ ∀ i (h : i < l.length), ∃ a, p = some a ∧ w.cell? (a.add i) = some (.int k l[i])
theorem ownI_rd {B : Nat} {e : TypeId} {k : IntKind} {w : World} {v : Value} {l : List Int} (h : ownI B e k w v l) : rdI k w v l := by
  obtain ⟨p, c, rfl, hp⟩ := ownI_len h
  refine ⟨p, c, rfl, fun i hi => ?_⟩
  obtain ⟨g, rfl, hB, hs⟩ := hp (fun e => by rw [e] at hi; simp at hi)
  refine ⟨_, rfl, ?_⟩
  rw [add_lit, Nat.zero_add]
  exact ownI_cell h i hi
theorem cell_lt {w : World} {a : Addr} {v : Value} (h : w.cell? a = some v) : a.block < w.heap.size := by
  unfold World.cell? at h
  rcases Nat.lt_or_ge a.block w.heap.size with h' | h'
  · exact h'
  · simp [Array.getElem?_eq_none h'] at h
theorem cell_below {w w' : World} {a : Addr} {v : Value} (hb : Below w.heap.size w w') (h : w.cell? a = some v) : w'.cell? a = some v := by
  rw [hb.cell (cell_lt h)]; exact h
theorem rdI_below {k : IntKind} {w w' : World} {v : Value} {l : List Int} (hb : Below w.heap.size w w') (h : rdI k w v l) : rdI k w' v l := by
  obtain ⟨p, c, rfl, h⟩ := h
  refine ⟨p, c, rfl, fun i hi => ?_⟩
  obtain ⟨a, ha, hc⟩ := h i hi
  exact ⟨a, ha, cell_below hb hc⟩
theorem ia_ld {k j : IntKind} {w : World} {v : Value} {l : List Int} {i : Int} {K : Value → M} {Q : Value → World → Prop} (h : rdI k w v l) (h0 : 0 ≤ i) (h1 : i < l.length)
    (kk : ∀ (hh : i.toNat < l.length), K (.int k l[i.toNat]) w Q) : ia 1 v (.int j i) (fun p => ld p K) w Q := by
  obtain ⟨p, c, rfl, h⟩ := h
  obtain ⟨a, rfl, hc⟩ := h i.toNat (by omega)
  rw [ia_e]
  refine ⟨h0, h1, ?_⟩
  rw [Nat.mul_one, ld_e]
  exact ⟨_, hc, kk (by omega)⟩
theorem lnl_rd {k : IntKind} {w w1 : World} {v : Value} {l : List Int} {K : Value → M} {Q : Value → World → Prop} (h : rdI k w v l) (kk : K (.int .i64 l.length) w1 Q) : lnl v K w1 Q := by
  obtain ⟨p, c, rfl, h⟩ := h
  rw [lnl_e]; exact kk
/-! stores of several cells -/
theorem blk_setCell {w : World} {b o : Nat} {c : Array Value} {t : TypeId} {fr : Nat × Nat} {v : Value} (h : w.heap[b]? = some (.cells c t fr)) : (w.setCell ⟨b, o, none⟩ v).heap[b]? = some (.cells (c.setIfInBounds o v) t fr) := by
  simp [World.setCell, Array.getElem?_modify, h]
theorem blk_setCell_ne {w : World} {a : Addr} {k : Nat} {v : Value} (h : k ≠ a.block) : (w.setCell a v).heap[k]? = w.heap[k]? := Below.heap_setCell w a v k h
theorem frozen_zero {w : World} {b o : Nat} {c : Array Value} {t : TypeId} (h : w.heap[b]? = some (.cells c t (0, 0))) : w.frozen? ⟨b, o, none⟩ = false := by
  simp [World.frozen?, h]
structure Upd (b : Nat) (w w' : World) : Prop where
  os : w'.os = w.os
  tape : w'.tape = w.tape
  output : w'.output = w.output
  size : w'.heap.size = w.heap.size
  block : ∀ k, k ≠ b → w'.heap[k]? = w.heap[k]?
theorem Upd.below {b B : Nat} {w w' : World} (h : Upd b w w') (hB : B ≤ b) : Below B w w' := ⟨h.os, h.tape, h.output, by rw [h.size]; exact Nat.le_refl _, fun k hk => h.block k (by omega)⟩
theorem sts_blk {b o : Nat} {t : TypeId} : ∀ (l : List Value) (i : Nat) (w : World) (c : Array Value), w.heap[b]? = some (.cells c t (0, 0)) → o + i + l.length ≤ c.size → (∀ v ∈ l, v.oneCell' = true) →
    ∃ w' c', sts w ⟨b, o, none⟩ l i = some w' ∧ w'.heap[b]? = some (.cells c' t (0, 0)) ∧ c'.toList = c.toList.take (o + i) ++ l ++ c.toList.drop (o + i + l.length) ∧ Upd b w w' := by
  intro l
  induction l with
  | nil => intro i w c h hs h1; exact ⟨w, c, rfl, h, by simp, rfl, rfl, rfl, rfl, fun _ _ => rfl⟩
  | cons v l ih =>
    intro i w c h hs h1
    simp only [List.length_cons] at hs
    have hc : (w.cell? ⟨b, o + i, none⟩).isSome = true := by rw [cell_of_blk h]; simp; omega
    have hf : w.frozen? ⟨b, o + i, none⟩ = false := frozen_zero h
    have hv := h1 v (by simp)
    obtain ⟨w', c', e1, e2, e3, e4⟩ := ih (i + 1) (w.setCell ⟨b, o + i, none⟩ v) _ (blk_setCell h) (by simp; omega) (fun u hu => h1 u (by simp [hu]))
    refine ⟨w', c', ?_, e2, ?_, ?_⟩
    · simp only [sts, add_lit, hc, hf, hv, Bool.not_false, Bool.and_self, if_true]
      exact e1
    · rw [e3]
      simp only [Array.toList_setIfInBounds, List.length_cons]
      have hlt : o + i < c.toList.length := by simp; omega
      have q1 : (c.toList.set (o + i) v).take (o + (i + 1)) = c.toList.take (o + i) ++ [v] := by
        rw [← Nat.add_assoc, List.take_succ_eq_append_getElem (by simpa using hlt)]
        simp [List.take_set]
        rw [List.set_eq_of_length_le (by simp; omega)]
      have q2 : (c.toList.set (o + i) v).drop (o + (i + 1) + l.length) = c.toList.drop (o + i + (l.length + 1)) := by
        rw [List.drop_set_of_lt (by omega)]; congr 1; omega
      rw [q1, q2]; simp
    · exact ⟨e4.os, e4.tape, e4.output, by rw [e4.size, size_setCell], fun k hk => by rw [e4.block k hk]; exact blk_setCell_ne hk⟩
/-- a whole block stored anew -/
theorem stn_box {n b : Nat} {w : World} {c cs : Array Value} {t : TypeId} {K0 : M} {Q : Value → World → Prop} (h : w.heap[b]? = some (.cells c t (0, 0))) (hc : c.size = n) (hn : cs.size = n) (h1 : ∀ v ∈ cs.toList, v.oneCell' = true)
    (k : ∀ w', w'.heap[b]? = some (.cells cs t (0, 0)) → Upd b w w' → K0 w' Q) : stn n (.pointer (some ⟨b, 0, none⟩)) (.agg cs) K0 w Q := by
  obtain ⟨w', c', e1, e2, e3, e4⟩ := sts_blk (o := 0) cs.toList 0 w c h (by simp; omega) h1
  refine ⟨_, cs, w', rfl, rfl, hn, e1, k w' ?_ e4⟩
  have : c' = cs := by
    apply Array.ext'
    rw [e3]
    simp [hn, hc]
  rw [← this]; exact e2
end Sh
end Go.Proofs.Ytnckcgpmidgggaa

set_option maxRecDepth 20000
set_option maxHeartbeats 4000000
namespace Go.Proofs.Ytnckcgpmidgggaa
open Sh
attribute [local irreducible] wpL anyG act jn lo gdB amb kp smr nc fa ld ldn st stn ad su mu qu re lt le gt ge eqi nei bws shl shr cat eqs nes lts gts eqb neb nt pk cv al bx ex fld fldn lnl lns ia iaa ixs sls sll sla mif mnm mxm mm asrt sm smu cl cc cf ci cnd gd gdu
theorem ae41 : arE Try.prog 41 3 1 = true := by kernel_rfl
theorem ag23 : isAg Try.prog 23 2 = true := by kernel_rfl
theorem ag27 : isAg Try.prog 27 2 = true := by kernel_rfl
theorem ag58 : isAg Try.prog 58 3 = true := by kernel_rfl
theorem bo4 : isBool Try.prog 4 = true := by kernel_rfl
theorem co54 : isConc Try.prog 54 = true := by kernel_rfl
theorem fo23_0 : fOff Try.prog 23 0 0 = true := by kernel_rfl
theorem fo23_1 : fOff Try.prog 23 1 1 = true := by kernel_rfl
theorem fo27_0 : fOff Try.prog 27 0 0 = true := by kernel_rfl
theorem fo27_1 : fOff Try.prog 27 1 1 = true := by kernel_rfl
theorem fo58_0 : fOff Try.prog 58 0 0 = true := by kernel_rfl
theorem fo58_1 : fOff Try.prog 58 1 2 = true := by kernel_rfl
theorem is43 : isSl Try.prog 43 = true := by kernel_rfl
theorem is44 : isSl Try.prog 44 = true := by kernel_rfl
theorem is46 : isSl Try.prog 46 = true := by kernel_rfl
theorem is56 : isSl Try.prog 56 = true := by kernel_rfl
theorem on2 : isOne Try.prog 2 = true := by kernel_rfl
theorem on56 : isOne Try.prog 56 = true := by kernel_rfl
theorem sc2 : isSc Try.prog 2 = true := by kernel_rfl
theorem sc56 : isSc Try.prog 56 = true := by kernel_rfl
theorem se43 : slE Try.prog 43 2 = true := by kernel_rfl
theorem se44 : slE Try.prog 44 1 = true := by kernel_rfl
theorem se46 : slE Try.prog 46 2 = true := by kernel_rfl
theorem se56 : slE Try.prog 56 3 = true := by kernel_rfl
theorem ze27 : zeroIs Try.prog 27 (.agg #[(.int .i64 0), (.int .i64 0)]) := by unfold zeroIs; kernel_rfl
theorem slt44 : slT Try.prog 44 2 (.int .i64 0) 1 8 := ⟨by kernel_rfl, by kernel_rfl⟩
theorem slt46 : slT Try.prog 46 27 (.agg #[(.int .i64 0), (.int .i64 0)]) 2 16 := ⟨by kernel_rfl, by kernel_rfl⟩
theorem slt56 : slT Try.prog 56 58 (.agg #[(.int .i64 0), (.int .i64 0), (.int .i64 0)]) 3 24 := ⟨by kernel_rfl, by kernel_rfl⟩
theorem nn7 : (Try.f7.name == "runtime.NumGoroutine") = false := by kernel_rfl
theorem nn8 : (Try.f8.name == "runtime.NumGoroutine") = false := by kernel_rfl
theorem nn9 : (Try.f9.name == "runtime.NumGoroutine") = false := by kernel_rfl
theorem nn11 : (Try.f11.name == "runtime.NumGoroutine") = false := by kernel_rfl
theorem nn12 : (Try.f12.name == "runtime.NumGoroutine") = false := by kernel_rfl
theorem nn13 : (Try.f13.name == "runtime.NumGoroutine") = false := by kernel_rfl
theorem nn15 : (Try.f15.name == "runtime.NumGoroutine") = false := by kernel_rfl
theorem nn17 : (Try.f17.name == "runtime.NumGoroutine") = false := by kernel_rfl
theorem nn18 : (Try.f18.name == "runtime.NumGoroutine") = false := by kernel_rfl
theorem nn19 : (Try.f19.name == "runtime.NumGoroutine") = false := by kernel_rfl
theorem nn20 : (Try.f20.name == "runtime.NumGoroutine") = false := by kernel_rfl
theorem nn21 : (Try.f21.name == "runtime.NumGoroutine") = false := by kernel_rfl
theorem nn22 : (Try.f22.name == "runtime.NumGoroutine") = false := by kernel_rfl
theorem nn23 : (Try.f23.name == "runtime.NumGoroutine") = false := by kernel_rfl
theorem nn24 : (Try.f24.name == "runtime.NumGoroutine") = false := by kernel_rfl
theorem nn26 : (Try.f26.name == "runtime.NumGoroutine") = false := by kernel_rfl
theorem nn27 : (Try.f27.name == "runtime.NumGoroutine") = false := by kernel_rfl
theorem nn28 : (Try.f28.name == "runtime.NumGoroutine") = false := by kernel_rfl
theorem nn29 : (Try.f29.name == "runtime.NumGoroutine") = false := by kernel_rfl
theorem nn30 : (Try.f30.name == "runtime.NumGoroutine") = false := by kernel_rfl
theorem nn31 : (Try.f31.name == "runtime.NumGoroutine") = false := by kernel_rfl
theorem nn32 : (Try.f32.name == "runtime.NumGoroutine") = false := by kernel_rfl
theorem nn33 : (Try.f33.name == "runtime.NumGoroutine") = false := by kernel_rfl
theorem nn34 : (Try.f34.name == "runtime.NumGoroutine") = false := by kernel_rfl
end Go.Proofs.Ytnckcgpmidgggaa

set_option maxRecDepth 20000
set_option maxHeartbeats 4000000
namespace Go.Proofs.Ytnckcgpmidgggaa
open Sh
attribute [local irreducible] wpL anyG act jn lo gdB amb kp smr nc fa ld ldn st stn ad su mu qu re lt le gt ge eqi nei bws shl shr cat eqs nes lts gts eqb neb nt pk cv al bx ex fld fldn lnl lns ia iaa ixs sls sll sla mif mnm mxm mm asrt sm smu cl cc cf ci cnd gd gdu
def f11 (t0 : Value) : M := bx 27 t0 fun t1 => fa 0 t1 fun t3 => ld t3 fun t4 => ge .i64 t4 (.int .i64 1) fun t5 => gd t5 true (fa 0 t1) fun t7 => gd t5 true (ld t7) fun t8 => gd t5 true (le .i64 t8 (.int .i64 1099511627776)) fun t9 => pk t5 t9 (.bool false) fun t10 => gd t10 true (fa 1 t1) fun t12 => gd t10 true (ld t12) fun t13 => gd t10 true (ge .i64 t13 (.int .i64 0)) fun t14 => pk t10 t14 (.bool false) fun t15 => gd t15 true (fa 1 t1) fun t17 => gd t15 true (ld t17) fun t18 => gd t15 true (fa 0 t1) fun t19 => gd t15 true (ld t19) fun t20 => gd t15 true (lt .i64 t18 t20) fun t21 => pk t15 t21 (.bool false) fun t22 => rt t22
theorem s11 (t0 : Value) (w : World) (Q : Value → World → Prop) (h : f11 t0 w Q) : Calls Try.prog 11 #[t0] w (Rt Q) := by
  refine calls_of (l := [t0]) Try.func11 rfl Try.ntmps11 (Nat.le_of_ble_eq_true rfl) ?_
  unfold f11 at h
  refine wp_seq ?_
  refine L_region ?_
  refine L_u (P_bx h) ?_
  intro v w h
  refine L_as ?_
  refine L_nil ?_
  refine E_n ?_
  refine wp_seq ?_
  refine L_region ?_
  refine L_u (P_fa fo27_0 h) ?_
  intro v w h
  refine L_u (P_ld sc2 h) ?_
  intro v w h
  refine L_u (P_ge h) ?_
  intro v w h
  refine L_mv ?_
  refine L_g (t := 6) h rfl rfl (fun c h => P_fa fo27_0 h c) ?_
  intro v w h
  refine L_g (t := 6) h rfl rfl (fun c h => P_ld sc2 h c) ?_
  intro v w h
  refine L_g (t := 6) h rfl rfl (fun c h => P_le h c) ?_
  intro v w h
  refine L_u (P_pk h) ?_
  intro v w h
  refine L_mv ?_
  refine L_g (t := 11) h rfl rfl (fun c h => P_fa fo27_1 h c) ?_
  intro v w h
  refine L_g (t := 11) h rfl rfl (fun c h => P_ld sc2 h c) ?_
  intro v w h
  refine L_g (t := 11) h rfl rfl (fun c h => P_ge h c) ?_
  intro v w h
  refine L_u (P_pk h) ?_
  intro v w h
  refine L_mv ?_
  refine L_g (t := 16) h rfl rfl (fun c h => P_fa fo27_1 h c) ?_
  intro v w h
  refine L_g (t := 16) h rfl rfl (fun c h => P_ld sc2 h c) ?_
  intro v w h
  refine L_g (t := 16) h rfl rfl (fun c h => P_fa fo27_0 h c) ?_
  intro v w h
  refine L_g (t := 16) h rfl rfl (fun c h => P_ld sc2 h c) ?_
  intro v w h
  refine L_g (t := 16) h rfl rfl (fun c h => P_lt h c) ?_
  intro v w h
  refine L_u (P_pk h) ?_
  intro v w h
  refine L_as ?_
  refine L_nil ?_
  refine E_n ?_
  refine C_ret ?_
  show bodyPost Try.prog Try.f11 (Rt Q) .ret _ _
  exact post_tmps (ts := [2]) (.inr rfl) rfl h

def f22 (t0 : Value) : M := ge .i64 t0 (.int .i64 (-1152921504606846976)) fun t4 => gd t4 true (idv t0) fun t6 => gd t4 true (le .i64 t6 (.int .i64 1152921504606846976)) fun t7 => pk t4 t7 (.bool false) fun t8 => rt t8
theorem s22 (t0 : Value) (w : World) (Q : Value → World → Prop) (h : f22 t0 w Q) : Calls Try.prog 22 #[t0] w (Rt Q) := by
  refine calls_of (l := [t0]) Try.func22 rfl Try.ntmps22 (Nat.le_of_ble_eq_true rfl) ?_
  unfold f22 at h
  refine wp_seq ?_
  refine L_region ?_
  refine L_as ?_
  refine L_nil ?_
  refine E_n ?_
  refine wp_seq ?_
  refine L_region ?_
  refine L_mv ?_
  refine L_u (P_ge h) ?_
  intro v w h
  refine L_mv ?_
  refine L_g (t := 5) h rfl rfl (fun c h => P_mv h c) ?_
  intro v w h
  refine L_g (t := 5) h rfl rfl (fun c h => P_le h c) ?_
  intro v w h
  refine L_u (P_pk h) ?_
  intro v w h
  refine L_as ?_
  refine L_nil ?_
  refine E_n ?_
  refine C_ret ?_
  show bodyPost Try.prog Try.f22 (Rt Q) .ret _ _
  exact post_tmps (ts := [2]) (.inr rfl) rfl h

def f27 (t0 t1 : Value) : M := re .i64 t0 t1 fun t7 => ad .i64 t7 t1 fun t9 => re .i64 t9 t1 fun t11 => rt t11
theorem s27 (t0 t1 : Value) (w : World) (Q : Value → World → Prop) (h : f27 t0 t1 w Q) : Calls Try.prog 27 #[t0, t1] w (Rt Q) := by
  refine calls_of (l := [t0, t1]) Try.func27 rfl Try.ntmps27 (Nat.le_of_ble_eq_true rfl) ?_
  unfold f27 at h
  refine wp_seq ?_
  refine L_region ?_
  refine L_as ?_
  refine L_nil ?_
  refine E_n ?_
  refine wp_seq ?_
  refine L_region ?_
  refine L_mv ?_
  refine L_mv ?_
  refine L_u (P_re h) ?_
  intro v w h
  refine L_mv ?_
  refine L_u (P_ad h) ?_
  intro v w h
  refine L_mv ?_
  refine L_u (P_re h) ?_
  intro v w h
  refine L_as ?_
  refine L_nil ?_
  refine E_n ?_
  refine C_ret ?_
  show bodyPost Try.prog Try.f27 (Rt Q) .ret _ _
  exact post_tmps (ts := [4]) (.inr rfl) rfl h

def f23 (t0 t1 : Value) : M := bx 27 t0 fun t2 => fa 1 t2 fun t6 => ld t6 fun t7 => su .i64 t7 t1 fun t9 => fa 0 t2 fun t10 => ld t10 fun t11 => cl (f27 t9 t11) fun t12 => ad .i64 t1 t12 fun t13 => rt t13
theorem s23 (t0 t1 : Value) (w : World) (Q : Value → World → Prop) (h : f23 t0 t1 w Q) : Calls Try.prog 23 #[t0, t1] w (Rt Q) := by
  refine calls_of (l := [t0, t1]) Try.func23 rfl Try.ntmps23 (Nat.le_of_ble_eq_true rfl) ?_
  unfold f23 at h
  refine wp_seq ?_
  refine L_region ?_
  refine L_u (P_bx h) ?_
  intro v w h
  refine L_as ?_
  refine L_nil ?_
  refine E_n ?_
  refine wp_seq ?_
  refine L_region ?_
  refine L_mv ?_
  refine L_u (P_fa fo27_1 h) ?_
  intro v w h
  refine L_u (P_ld sc2 h) ?_
  intro v w h
  refine L_mv ?_
  refine L_u (P_su h) ?_
  intro v w h
  refine L_u (P_fa fo27_0 h) ?_
  intro v w h
  refine L_u (P_ld sc2 h) ?_
  intro v w h
  refine L_u (N_cl Try.func27 rfl nn27 (fun w Q h => s27 _ _ w Q h) h) ?_
  intro v w h
  refine L_u (P_ad h) ?_
  intro v w h
  refine L_as ?_
  refine L_nil ?_
  refine E_n ?_
  refine C_ret ?_
  show bodyPost Try.prog Try.f23 (Rt Q) .ret _ _
  exact post_tmps (ts := [4]) (.inr rfl) rfl h

def f8 (t0 t1 : Value) : M := bx 27 t0 fun t2 => ldn 2 t2 fun t6 => cl (f11 t6) fun t7 => nt t7 fun t8 => gd t8 false (idv t1) fun t10 => gd t8 false (cl (f22 t10)) fun t11 => gd t8 false (nt t11) fun t12 => pk t8 (.bool true) t12 fun t13 => cnd t13 ( rt (.tuple #[(.int .i64 0), (.bool false)]) ) ( ldn 2 t2 fun t14 => ad .i64 t1 (.int .i64 1) fun t16 => cl (f23 t14 t16) fun t17 => rt (.tuple #[t17, (.bool true)]) )
theorem s8 (t0 t1 : Value) (w : World) (Q : Value → World → Prop) (h : f8 t0 t1 w Q) : Calls Try.prog 8 #[t0, t1] w (Rt Q) := by
  refine calls_of (l := [t0, t1]) Try.func8 rfl Try.ntmps8 (Nat.le_of_ble_eq_true rfl) ?_
  unfold f8 at h
  refine wp_seq ?_
  refine L_region ?_
  refine L_u (P_bx h) ?_
  intro v w h
  refine L_as ?_
  refine L_as ?_
  refine L_nil ?_
  refine E_n ?_
  refine wp_seq ?_
  refine wp_seq ?_
  refine L_region ?_
  refine L_u (P_ldn ag27 h) ?_
  intro v w h
  refine L_u (N_cl Try.func11 rfl nn11 (fun w Q h => s11 _ w Q h) h) ?_
  intro v w h
  refine L_u (P_nt h) ?_
  intro v w h
  refine L_mv ?_
  refine L_g (t := 9) h rfl rfl (fun c h => P_mv h c) ?_
  intro v w h
  refine L_g (t := 9) h rfl rfl (fun c h => N_cl Try.func22 rfl nn22 (fun w Q h => s22 _ w Q h) h c) ?_
  intro v w h
  refine L_g (t := 9) h rfl rfl (fun c h => P_nt h c) ?_
  intro v w h
  refine L_u (P_pk h) ?_
  intro v w h
  refine L_nil ?_
  refine E_n ?_
  refine C_cnd h (fun h => ?_) (fun h => ?_)
  · refine wp_seq ?_
    refine L_region ?_
    refine L_as ?_
    refine L_as ?_
    refine L_nil ?_
    refine E_n ?_
    refine C_ret ?_
    show bodyPost Try.prog Try.f8 (Rt Q) .ret _ _
    exact post_tmps (ts := [4, 5]) (.inr rfl) rfl h
  · refine C_skip ?_
    refine E_n ?_
    refine wp_seq ?_
    refine L_region ?_
    refine L_u (P_ldn ag27 h) ?_
    intro v w h
    refine L_mv ?_
    refine L_u (P_ad h) ?_
    intro v w h
    refine L_u (N_cl Try.func23 rfl nn23 (fun w Q h => s23 _ _ w Q h) h) ?_
    intro v w h
    refine L_as ?_
    refine L_as ?_
    refine L_nil ?_
    refine E_n ?_
    refine C_ret ?_
    show bodyPost Try.prog Try.f8 (Rt Q) .ret _ _
    exact post_tmps (ts := [4, 5]) (.inr rfl) rfl h

def f15 (t0 t1 t2 : Value) : M := bx 27 t0 fun t3 => ldn 2 t3 fun t7 => cl (f11 t7) fun t8 => nt t8 fun t9 => gd t9 false (idv t1) fun t11 => gd t9 false (cl (f22 t11)) fun t12 => gd t9 false (nt t12) fun t13 => pk t9 (.bool true) t13 fun t14 => gd t14 false (idv t2) fun t16 => gd t14 false (cl (f22 t16)) fun t17 => gd t14 false (nt t17) fun t18 => pk t14 (.bool true) t18 fun t19 => gd t19 false (idv t2) fun t21 => gd t19 false (idv t1) fun t22 => gd t19 false (le .i64 t21 t22) fun t23 => pk t19 (.bool true) t23 fun t24 => cnd t24 ( rt (.int .i64 0) ) ( dr <| ldn 2 t3 fun t25 => idv t2 fun t26 => ldn 2 t3 fun t28 => idv t1 fun t29 => fa 0 t3 fun t32 => ld t32 fun t33 => cl (f23 t25 t26) fun t27 => kp (Kld t32 t33) <| kp (Kldn 2 t3 t28) <| cl (f23 t28 t29) fun t30 => kp (Kld t32 t33) <| su .i64 t27 t30 fun t31 => qu .i64 t31 t33 fun t34 => idv t34 fun t6 => rt t6 )
theorem s15 (t0 t1 t2 : Value) (w : World) (Q : Value → World → Prop) (h : f15 t0 t1 t2 w Q) : Calls Try.prog 15 #[t0, t1, t2] w (Rt Q) := by
  refine calls_of (l := [t0, t1, t2]) Try.func15 rfl Try.ntmps15 (Nat.le_of_ble_eq_true rfl) ?_
  unfold f15 at h
  refine wp_seq ?_
  refine L_region ?_
  refine L_u (P_bx h) ?_
  intro v w h
  refine L_as ?_
  refine L_nil ?_
  refine E_n ?_
  refine wp_seq ?_
  refine wp_seq ?_
  refine L_region ?_
  refine L_u (P_ldn ag27 h) ?_
  intro v w h
  refine L_u (N_cl Try.func11 rfl nn11 (fun w Q h => s11 _ w Q h) h) ?_
  intro v w h
  refine L_u (P_nt h) ?_
  intro v w h
  refine L_mv ?_
  refine L_g (t := 10) h rfl rfl (fun c h => P_mv h c) ?_
  intro v w h
  refine L_g (t := 10) h rfl rfl (fun c h => N_cl Try.func22 rfl nn22 (fun w Q h => s22 _ w Q h) h c) ?_
  intro v w h
  refine L_g (t := 10) h rfl rfl (fun c h => P_nt h c) ?_
  intro v w h
  refine L_u (P_pk h) ?_
  intro v w h
  refine L_mv ?_
  refine L_g (t := 15) h rfl rfl (fun c h => P_mv h c) ?_
  intro v w h
  refine L_g (t := 15) h rfl rfl (fun c h => N_cl Try.func22 rfl nn22 (fun w Q h => s22 _ w Q h) h c) ?_
  intro v w h
  refine L_g (t := 15) h rfl rfl (fun c h => P_nt h c) ?_
  intro v w h
  refine L_u (P_pk h) ?_
  intro v w h
  refine L_mv ?_
  refine L_g (t := 20) h rfl rfl (fun c h => P_mv h c) ?_
  intro v w h
  refine L_g (t := 20) h rfl rfl (fun c h => P_mv h c) ?_
  intro v w h
  refine L_g (t := 20) h rfl rfl (fun c h => P_le h c) ?_
  intro v w h
  refine L_u (P_pk h) ?_
  intro v w h
  refine L_nil ?_
  refine E_n ?_
  refine C_cnd h (fun h => ?_) (fun h => ?_)
  · refine wp_seq ?_
    refine L_region ?_
    refine L_as ?_
    refine L_nil ?_
    refine E_n ?_
    refine C_ret ?_
    show bodyPost Try.prog Try.f15 (Rt Q) .ret _ _
    exact post_tmps (ts := [6]) (.inr rfl) rfl h
  · refine C_skip ?_
    refine E_n ?_
    refine wp_seq ?_
    refine D_region (by decide +kernel) 11 rfl ?_
    replace h := dr_e h
    refine G_r _ 0 rfl (by decide +kernel) (R_ldn ag27 h) ?_
    intro v h
    refine G_p 1 rfl (by decide +kernel) (Y_mv h) ?_
    intro v h
    refine G_r _ 3 rfl (by decide +kernel) (R_ldn ag27 h) ?_
    intro v h
    refine G_p 4 rfl (by decide +kernel) (Y_mv h) ?_
    intro v h
    refine G_p 7 rfl (by decide +kernel) (Y_fa fo27_0 h) ?_
    intro v h
    refine G_r _ 8 rfl (by decide +kernel) (R_ld sc2 h) ?_
    intro v h
    refine G_e 2 rfl (by decide +kernel) (N_cl Try.func23 rfl nn23 (fun w Q h => s23 _ _ w Q h) h ?_)
    intro v w h
    refine ⟨keepF_cons (kp_1 h) (keepF_cons (kp_1 (kp_2 h)) (keepF_dep [0] (by decide +kernel) rfl keepF_nil)), ?_⟩
    replace h := (kp_2 (kp_2 h))
    refine G_e 5 rfl (by decide +kernel) (N_cl Try.func23 rfl nn23 (fun w Q h => s23 _ _ w Q h) h ?_)
    intro v w h
    refine ⟨keepF_cons (kp_1 h) (keepF_dep [3] (by decide +kernel) rfl (keepF_dep [2, 0] (by decide +kernel) rfl keepF_nil)), ?_⟩
    replace h := (kp_2 h)
    refine G_p 6 rfl (by decide +kernel) (Y_su h) ?_
    intro v h
    refine G_p 9 rfl (by decide +kernel) (Y_qu h) ?_
    intro v h
    refine G_p 10 rfl (by decide +kernel) (Y_as h) ?_
    intro v h
    refine G_done (by decide +kernel) ?_
    refine E_n ?_
    refine C_ret ?_
    show bodyPost Try.prog Try.f15 (Rt Q) .ret _ _
    exact post_tmps (ts := [6]) (.inr rfl) rfl h

def f26_b2 (j1 : Value → M) (self2 : Value → Value → M) (t0_1 t1_1 : Value) : M := nei .i64 t1_1 (.int .i64 0) fun t6 => cnd t6 ( dr <| idv t1_1 fun t7 => idv t0_1 fun t8 => idv t1_1 fun t9 => re .i64 t8 t9 fun t10 => idv t7 fun t0_2 => idv t10 fun t1_2 => self2 t0_2 t1_2 ) ( j1 t0_1 )
def f26_j1 (t0_3 : Value) : M := rt t0_3
def f26 (t0 t1 : Value) : M := jn (fun (j1 : Value → M) => lo (fun _ _ => bot) (f26_b2 j1) (fun l => l t0 t1) ) (f26_j1)
theorem s26 (t0 t1 : Value) (w : World) (Q : Value → World → Prop) (h : f26 t0 t1 w Q) : Calls Try.prog 26 #[t0, t1] w (Rt Q) := by
  refine calls_of (l := [t0, t1]) Try.func26 rfl Try.ntmps26 (Nat.le_of_ble_eq_true rfl) ?_
  unfold f26 at h
  refine wp_seq ?_
  refine L_region ?_
  refine L_as ?_
  refine L_nil ?_
  refine E_n ?_
  refine wp_seq ?_
  refine C_join (fun (k : Value → M) (ρ : Nat → Value) => k (ρ 0)) h (fun j1 J1 h => ?_) (fun ρ w h => ?_)
  · refine C_blk ?_
    refine C_lo (fun (l : Value → Value → M) (ρ : Nat → Value) => l (ρ 0) (ρ 1)) h (fun ρ w h => h) (fun nx self2 L2 ρ w h => ?_)
    unfold f26_b2 at h
    refine wp_seq ?_
    refine wp_seq ?_
    refine L_region ?_
    refine L_mv ?_
    refine L_u (P_nei h) ?_
    intro v w h
    refine L_nil ?_
    refine E_n ?_
    refine C_cnd h (fun h => ?_) (fun h => ?_)
    · refine C_skip ?_
      refine E_n ?_
      refine C_blk ?_
      refine D_region (by decide +kernel) 6 rfl ?_
      replace h := dr_e h
      refine G_p 0 rfl (by decide +kernel) (Y_mv h) ?_
      intro v h
      refine G_p 1 rfl (by decide +kernel) (Y_mv h) ?_
      intro v h
      refine G_p 2 rfl (by decide +kernel) (Y_mv h) ?_
      intro v h
      refine G_p 3 rfl (by decide +kernel) (Y_re h) ?_
      intro v h
      refine G_p 4 rfl (by decide +kernel) (Y_as h) ?_
      intro v h
      refine G_p 5 rfl (by decide +kernel) (Y_as h) ?_
      intro v h
      refine G_done (by decide +kernel) ?_
      refine B_n ?_
      refine E_n ?_
      exact L2 _ _ h
    · refine C_exit ?_
      refine E_x ?_
      refine E_x ?_
      refine B_x ?_
      exact J1 _ _ h
  · unfold f26_j1 at h
    refine E_n ?_
    refine wp_seq ?_
    refine L_region ?_
    refine L_mv ?_
    refine L_as ?_
    refine L_nil ?_
    refine E_n ?_
    refine C_ret ?_
    show bodyPost Try.prog Try.f26 (Rt Q) .ret _ _
    exact post_tmps (ts := [4]) (.inr rfl) rfl h

def f32_b2 (j1 : Value → Value → M) (self2 : Value → Value → Value → Value → Value → M) (t1_1 t5 t6 t7 t8 : Value) : M := nei .i64 t8 (.int .i64 0) fun t15 => cnd t15 ( qu .i64 t7 t8 fun t18 => mu .i64 t18 t8 fun t23 => su .i64 t7 t23 fun t24 => mu .i64 t18 t6 fun t29 => su .i64 t5 t29 fun t30 => self2 t1_1 t6 t30 t8 t24 ) ( j1 t1_1 t5 )
def f32_j1 (t1_2 t5_1 : Value) : M := cl (f27 t5_1 t1_2) fun t33 => rt t33
def f32 (t0 t1 : Value) : M := cl (f27 t0 t1) fun t12 => jn (fun (j1 : Value → Value → M) => lo (fun _ _ _ _ _ => bot) (f32_b2 j1) (fun l => l t1 (.int .i64 1) (.int .i64 0) t12 t1) ) (f32_j1)
theorem s32 (t0 t1 : Value) (w : World) (Q : Value → World → Prop) (h : f32 t0 t1 w Q) : Calls Try.prog 32 #[t0, t1] w (Rt Q) := by
  refine calls_of (l := [t0, t1]) Try.func32 rfl Try.ntmps32 (Nat.le_of_ble_eq_true rfl) ?_
  unfold f32 at h
  refine wp_seq ?_
  refine L_region ?_
  refine L_as ?_
  refine L_nil ?_
  refine E_n ?_
  refine wp_seq ?_
  refine L_region ?_
  refine L_mv ?_
  refine L_mv ?_
  refine L_u (N_cl Try.func27 rfl nn27 (fun w Q h => s27 _ _ w Q h) h) ?_
  intro v w h
  refine L_mv ?_
  refine L_as ?_
  refine L_as ?_
  refine L_as ?_
  refine L_as ?_
  refine L_nil ?_
  refine E_n ?_
  refine wp_seq ?_
  refine C_join (fun (k : Value → Value → M) (ρ : Nat → Value) => k (ρ 1) (ρ 5)) h (fun j1 J1 h => ?_) (fun ρ w h => ?_)
  · refine C_blk ?_
    refine C_lo (fun (l : Value → Value → Value → Value → Value → M) (ρ : Nat → Value) => l (ρ 1) (ρ 5) (ρ 6) (ρ 7) (ρ 8)) h (fun ρ w h => h) (fun nx self2 L2 ρ w h => ?_)
    unfold f32_b2 at h
    refine wp_seq ?_
    refine wp_seq ?_
    refine L_region ?_
    refine L_mv ?_
    refine L_u (P_nei h) ?_
    intro v w h
    refine L_nil ?_
    refine E_n ?_
    refine C_cnd h (fun h => ?_) (fun h => ?_)
    · refine C_skip ?_
      refine E_n ?_
      refine C_blk ?_
      refine wp_seq ?_
      refine L_region ?_
      refine L_mv ?_
      refine L_mv ?_
      refine L_u (P_qu h) ?_
      intro v w h
      refine L_as ?_
      refine L_nil ?_
      refine E_n ?_
      refine wp_seq ?_
      refine L_region ?_
      refine L_mv ?_
      refine L_mv ?_
      refine L_mv ?_
      refine L_mv ?_
      refine L_u (P_mu h) ?_
      intro v w h
      refine L_u (P_su h) ?_
      intro v w h
      refine L_as ?_
      refine L_as ?_
      refine L_nil ?_
      refine E_n ?_
      refine L_region ?_
      refine L_mv ?_
      refine L_mv ?_
      refine L_mv ?_
      refine L_mv ?_
      refine L_u (P_mu h) ?_
      intro v w h
      refine L_u (P_su h) ?_
      intro v w h
      refine L_as ?_
      refine L_as ?_
      refine L_nil ?_
      refine B_n ?_
      refine E_n ?_
      exact L2 _ _ h
    · refine C_exit ?_
      refine E_x ?_
      refine E_x ?_
      refine B_x ?_
      exact J1 _ _ h
  · unfold f32_j1 at h
    refine E_n ?_
    refine wp_seq ?_
    refine L_region ?_
    refine L_mv ?_
    refine L_mv ?_
    refine L_u (N_cl Try.func27 rfl nn27 (fun w Q h => s27 _ _ w Q h) h) ?_
    intro v w h
    refine L_as ?_
    refine L_nil ?_
    refine E_n ?_
    refine C_ret ?_
    show bodyPost Try.prog Try.f32 (Rt Q) .ret _ _
    exact post_tmps (ts := [4]) (.inr rfl) rfl h

def f28 (t0 t1 t2 t3 : Value) : M := bx 27 t0 fun t4 => bx 27 t1 fun t5 => al 27 #[(.int .i64 0), (.int .i64 0)] fun t8 => dr <| fa 1 t5 fun t12 => ld t12 fun t13 => fa 1 t4 fun t14 => ld t14 fun t15 => su .i64 t13 t15 fun t16 => idv t2 fun t17 => qu .i64 t16 t17 fun t18 => idv t3 fun t19 => fa 0 t4 fun t21 => ld t21 fun t22 => idv t2 fun t23 => qu .i64 t22 t23 fun t24 => idv t3 fun t25 => idv t3 fun t28 => cl (f27 t18 t19) fun t20 => kp (Kld t21 t22) <| cl (f32 t24 t25) fun t26 => mu .i64 t20 t26 fun t27 => re .i64 t27 t28 fun t29 => idv t29 fun t10 => fa 0 t4 fun t30 => ld t30 fun t31 => mu .i64 t31 t3 fun t33 => fa 1 t4 fun t35 => ld t35 fun t36 => fa 0 t4 fun t37 => ld t37 fun t38 => mu .i64 t38 t10 fun t40 => ad .i64 t36 t40 fun t41 => cl (f27 t41 t33) fun t43 => smr Try.prog (Instr.build 27 #[(0, t33), (1, t43)]) fun t44 => stn 2 t8 t44 <| ldn 2 t8 fun r0 => rt (.tuple #[r0, (.bool true)])
theorem s28 (t0 t1 t2 t3 : Value) (w : World) (Q : Value → World → Prop) (h : f28 t0 t1 t2 t3 w Q) : Calls Try.prog 28 #[t0, t1, t2, t3] w (Rt Q) := by
  refine calls_of (l := [t0, t1, t2, t3]) Try.func28 rfl Try.ntmps28 (Nat.le_of_ble_eq_true rfl) ?_
  unfold f28 at h
  refine wp_seq ?_
  refine L_region ?_
  refine L_u (P_bx h) ?_
  intro v w h
  refine L_u (P_bx h) ?_
  intro v w h
  refine L_u (P_al ze27 rfl h) ?_
  intro v w h
  refine L_as ?_
  refine L_nil ?_
  refine E_n ?_
  refine wp_seq ?_
  refine D_region (by decide +kernel) 19 rfl ?_
  replace h := dr_e h
  refine G_p 0 rfl (by decide +kernel) (Y_fa fo27_1 h) ?_
  intro v h
  refine G_r _ 1 rfl (by decide +kernel) (R_ld sc2 h) ?_
  intro v h
  refine G_p 2 rfl (by decide +kernel) (Y_fa fo27_1 h) ?_
  intro v h
  refine G_r _ 3 rfl (by decide +kernel) (R_ld sc2 h) ?_
  intro v h
  refine G_p 4 rfl (by decide +kernel) (Y_su h) ?_
  intro v h
  refine G_p 5 rfl (by decide +kernel) (Y_mv h) ?_
  intro v h
  refine G_p 6 rfl (by decide +kernel) (Y_qu h) ?_
  intro v h
  refine G_p 7 rfl (by decide +kernel) (Y_mv h) ?_
  intro v h
  refine G_p 9 rfl (by decide +kernel) (Y_fa fo27_0 h) ?_
  intro v h
  refine G_r _ 10 rfl (by decide +kernel) (R_ld sc2 h) ?_
  intro v h
  refine G_p 11 rfl (by decide +kernel) (Y_mv h) ?_
  intro v h
  refine G_p 12 rfl (by decide +kernel) (Y_qu h) ?_
  intro v h
  refine G_p 13 rfl (by decide +kernel) (Y_mv h) ?_
  intro v h
  refine G_p 16 rfl (by decide +kernel) (Y_mv h) ?_
  intro v h
  refine G_e 8 rfl (by decide +kernel) (N_cl Try.func27 rfl nn27 (fun w Q h => s27 _ _ w Q h) h ?_)
  intro v w h
  refine ⟨keepF_cons (kp_1 h) (keepF_dep [6, 4, 3] (by decide +kernel) rfl (keepF_dep [6, 4, 1] (by decide +kernel) rfl keepF_nil)), ?_⟩
  replace h := (kp_2 h)
  refine G_e 14 rfl (by decide +kernel) (N_cl Try.func32 rfl nn32 (fun w Q h => s32 _ _ w Q h) h ?_)
  intro v w h
  refine ⟨keepF_dep [12, 10] (by decide +kernel) rfl (keepF_dep [8, 6, 4, 3] (by decide +kernel) rfl (keepF_dep [8, 6, 4, 1] (by decide +kernel) rfl keepF_nil)), ?_⟩
  refine G_p 15 rfl (by decide +kernel) (Y_mu h) ?_
  intro v h
  refine G_p 17 rfl (by decide +kernel) (Y_re h) ?_
  intro v h
  refine G_p 18 rfl (by decide +kernel) (Y_as h) ?_
  intro v h
  refine G_done (by decide +kernel) ?_
  refine E_n ?_
  refine wp_seq ?_
  refine L_region ?_
  refine L_u (P_fa fo27_0 h) ?_
  intro v w h
  refine L_u (P_ld sc2 h) ?_
  intro v w h
  refine L_mv ?_
  refine L_u (P_mu h) ?_
  intro v w h
  refine L_as ?_
  refine L_nil ?_
  refine E_n ?_
  refine wp_seq ?_
  refine L_region ?_
  refine L_mv ?_
  refine L_u (P_fa fo27_1 h) ?_
  intro v w h
  refine L_u (P_ld sc2 h) ?_
  intro v w h
  refine L_u (P_fa fo27_0 h) ?_
  intro v w h
  refine L_u (P_ld sc2 h) ?_
  intro v w h
  refine L_mv ?_
  refine L_u (P_mu h) ?_
  intro v w h
  refine L_u (P_ad h) ?_
  intro v w h
  refine L_mv ?_
  refine L_u (N_cl Try.func27 rfl nn27 (fun w Q h => s27 _ _ w Q h) h) ?_
  intro v w h
  refine L_u (N_bld h) ?_
  intro v w h
  refine L_u (P_stn ag27 h) ?_
  intro w h
  refine L_as ?_
  refine L_nil ?_
  refine E_n ?_
  refine C_ret ?_
  show bodyPost Try.prog Try.f28 (Rt Q) .ret _ _
  refine post_res [.cell 8 27, .tmp 9] (.inr rfl) rfl ?_
  refine res_ldn 8 27 ag27 (by exact h) (fun _ hr0 h => ?_)
  exact ⟨[_, _], ⟨hr0, rv_tmp, trivial⟩, h⟩

def f17_j1 (t2_1 t3_1 t4_1 : Value) : M := fa 0 t2_1 fun t24 => ld t24 fun t25 => fa 0 t3_1 fun t26 => ld t26 fun t27 => cl (f26 t25 t27) fun t28 => fa 0 t3_1 fun t29 => ld t29 fun t30 => qu .i64 t30 t28 fun t32 => fa 0 t2_1 fun t34 => ld t34 fun t35 => qu .i64 (.int .i64 1099511627776) t35 fun t36 => gt .i64 t32 t36 fun t37 => gd t37 false (fa 1 t2_1) fun t39 => gd t37 false (ld t39) fun t40 => gd t37 false (fa 1 t3_1) fun t41 => gd t37 false (ld t41) fun t42 => gd t37 false (su .i64 t40 t42) fun t43 => gd t37 false (idv t28) fun t44 => gd t37 false (cl (f27 t43 t44)) fun t45 => gd t37 false (nei .i64 t45 (.int .i64 0)) fun t46 => pk t37 (.bool true) t46 fun t47 => cnd t47 ( smr Try.prog (Instr.build 27 #[]) fun t48 => stn 2 t4_1 t48 <| ldn 2 t4_1 fun r0 => rt (.tuple #[r0, (.bool false)]) ) ( ldn 2 t2_1 fun t49 => ldn 2 t3_1 fun t50 => cl (f28 t49 t50 t28 t32) fun t53 => ex 0 t53 fun t54 => ex 1 t53 fun t55 => stn 2 t4_1 t54 <| ldn 2 t4_1 fun r0 => rt (.tuple #[r0, t55]) )
def f17 (t0 t1 : Value) : M := bx 27 t0 fun t2 => bx 27 t1 fun t3 => al 27 #[(.int .i64 0), (.int .i64 0)] fun t4 => ldn 2 t2 fun t8 => cl (f11 t8) fun t9 => nt t9 fun t10 => gd t10 false (ldn 2 t3) fun t12 => gd t10 false (cl (f11 t12)) fun t13 => gd t10 false (nt t13) fun t14 => pk t10 (.bool true) t14 fun t15 => cnd t15 ( smr Try.prog (Instr.build 27 #[]) fun t16 => stn 2 t4 t16 <| ldn 2 t4 fun r0 => rt (.tuple #[r0, (.bool false)]) ) ( fa 0 t2 fun t17 => ld t17 fun t18 => fa 0 t3 fun t19 => ld t19 fun t20 => lt .i64 t18 t20 fun t21 => jn (fun (j1 : Value → Value → Value → M) => cnd t21 ( ldn 2 t3 fun t22 => ldn 2 t2 fun t23 => stn 2 t2 t22 <| stn 2 t3 t23 <| j1 t2 t3 t4 ) ( j1 t2 t3 t4 ) ) (f17_j1) )
theorem s17 (t0 t1 : Value) (w : World) (Q : Value → World → Prop) (h : f17 t0 t1 w Q) : Calls Try.prog 17 #[t0, t1] w (Rt Q) := by
  refine calls_of (l := [t0, t1]) Try.func17 rfl Try.ntmps17 (Nat.le_of_ble_eq_true rfl) ?_
  unfold f17 at h
  refine wp_seq ?_
  refine L_region ?_
  refine L_u (P_bx h) ?_
  intro v w h
  refine L_u (P_bx h) ?_
  intro v w h
  refine L_u (P_al ze27 rfl h) ?_
  intro v w h
  refine L_as ?_
  refine L_nil ?_
  refine E_n ?_
  refine wp_seq ?_
  refine wp_seq ?_
  refine L_region ?_
  refine L_u (P_ldn ag27 h) ?_
  intro v w h
  refine L_u (N_cl Try.func11 rfl nn11 (fun w Q h => s11 _ w Q h) h) ?_
  intro v w h
  refine L_u (P_nt h) ?_
  intro v w h
  refine L_mv ?_
  refine L_g (t := 11) h rfl rfl (fun c h => P_ldn ag27 h c) ?_
  intro v w h
  refine L_g (t := 11) h rfl rfl (fun c h => N_cl Try.func11 rfl nn11 (fun w Q h => s11 _ w Q h) h c) ?_
  intro v w h
  refine L_g (t := 11) h rfl rfl (fun c h => P_nt h c) ?_
  intro v w h
  refine L_u (P_pk h) ?_
  intro v w h
  refine L_nil ?_
  refine E_n ?_
  refine C_cnd h (fun h => ?_) (fun h => ?_)
  · refine wp_seq ?_
    refine L_region ?_
    refine L_u (N_bld h) ?_
    intro v w h
    refine L_u (P_stn ag27 h) ?_
    intro w h
    refine L_as ?_
    refine L_nil ?_
    refine E_n ?_
    refine C_ret ?_
    show bodyPost Try.prog Try.f17 (Rt Q) .ret _ _
    refine post_res [.cell 4 27, .tmp 5] (.inr rfl) rfl ?_
    refine res_ldn 4 27 ag27 (by exact h) (fun _ hr0 h => ?_)
    exact ⟨[_, _], ⟨hr0, rv_tmp, trivial⟩, h⟩
  · refine C_skip ?_
    refine E_n ?_
    refine wp_seq ?_
    refine wp_seq ?_
    refine L_region ?_
    refine L_u (P_fa fo27_0 h) ?_
    intro v w h
    refine L_u (P_ld sc2 h) ?_
    intro v w h
    refine L_u (P_fa fo27_0 h) ?_
    intro v w h
    refine L_u (P_ld sc2 h) ?_
    intro v w h
    refine L_u (P_lt h) ?_
    intro v w h
    refine L_nil ?_
    refine E_n ?_
    refine C_join (fun (k : Value → Value → Value → M) (ρ : Nat → Value) => k (ρ 2) (ρ 3) (ρ 4)) h (fun j1 J1 h => ?_) (fun ρ w h => ?_)
    · refine C_cnd h (fun h => ?_) (fun h => ?_)
      · refine L_region ?_
        refine L_u (P_ldn ag27 h) ?_
        intro v w h
        refine L_u (P_ldn ag27 h) ?_
        intro v w h
        refine L_u (P_stn ag27 h) ?_
        intro w h
        refine L_u (P_stn ag27 h) ?_
        intro w h
        refine L_nil ?_
        exact J1 _ _ h
      · refine C_skip ?_
        exact J1 _ _ h
    · unfold f17_j1 at h
      refine E_n ?_
      refine wp_seq ?_
      refine L_region ?_
      refine L_u (P_fa fo27_0 h) ?_
      intro v w h
      refine L_u (P_ld sc2 h) ?_
      intro v w h
      refine L_u (P_fa fo27_0 h) ?_
      intro v w h
      refine L_u (P_ld sc2 h) ?_
      intro v w h
      refine L_u (N_cl Try.func26 rfl nn26 (fun w Q h => s26 _ _ w Q h) h) ?_
      intro v w h
      refine L_as ?_
      refine L_nil ?_
      refine E_n ?_
      refine wp_seq ?_
      refine L_region ?_
      refine L_u (P_fa fo27_0 h) ?_
      intro v w h
      refine L_u (P_ld sc2 h) ?_
      intro v w h
      refine L_mv ?_
      refine L_u (P_qu h) ?_
      intro v w h
      refine L_as ?_
      refine L_nil ?_
      refine E_n ?_
      refine wp_seq ?_
      refine wp_seq ?_
      refine L_region ?_
      refine L_mv ?_
      refine L_u (P_fa fo27_0 h) ?_
      intro v w h
      refine L_u (P_ld sc2 h) ?_
      intro v w h
      refine L_u (P_qu h) ?_
      intro v w h
      refine L_u (P_gt h) ?_
      intro v w h
      refine L_mv ?_
      refine L_g (t := 38) h rfl rfl (fun c h => P_fa fo27_1 h c) ?_
      intro v w h
      refine L_g (t := 38) h rfl rfl (fun c h => P_ld sc2 h c) ?_
      intro v w h
      refine L_g (t := 38) h rfl rfl (fun c h => P_fa fo27_1 h c) ?_
      intro v w h
      refine L_g (t := 38) h rfl rfl (fun c h => P_ld sc2 h c) ?_
      intro v w h
      refine L_g (t := 38) h rfl rfl (fun c h => P_su h c) ?_
      intro v w h
      refine L_g (t := 38) h rfl rfl (fun c h => P_mv h c) ?_
      intro v w h
      refine L_g (t := 38) h rfl rfl (fun c h => N_cl Try.func27 rfl nn27 (fun w Q h => s27 _ _ w Q h) h c) ?_
      intro v w h
      refine L_g (t := 38) h rfl rfl (fun c h => P_nei h c) ?_
      intro v w h
      refine L_u (P_pk h) ?_
      intro v w h
      refine L_nil ?_
      refine E_n ?_
      refine C_cnd h (fun h => ?_) (fun h => ?_)
      · refine wp_seq ?_
        refine L_region ?_
        refine L_u (N_bld h) ?_
        intro v w h
        refine L_u (P_stn ag27 h) ?_
        intro w h
        refine L_as ?_
        refine L_nil ?_
        refine E_n ?_
        refine C_ret ?_
        show bodyPost Try.prog Try.f17 (Rt Q) .ret _ _
        refine post_res [.cell 4 27, .tmp 5] (.inr rfl) rfl ?_
        refine res_ldn 4 27 ag27 (by exact h) (fun _ hr0 h => ?_)
        exact ⟨[_, _], ⟨hr0, rv_tmp, trivial⟩, h⟩
      · refine C_skip ?_
        refine E_n ?_
        refine wp_seq ?_
        refine L_region ?_
        refine L_u (P_ldn ag27 h) ?_
        intro v w h
        refine L_u (P_ldn ag27 h) ?_
        intro v w h
        refine L_mv ?_
        refine L_mv ?_
        refine L_u (N_cl Try.func28 rfl nn28 (fun w Q h => s28 _ _ _ _ w Q h) h) ?_
        intro v w h
        refine L_u (P_ex h) ?_
        intro v w h
        refine L_u (P_ex h) ?_
        intro v w h
        refine L_u (P_stn ag27 h) ?_
        intro w h
        refine L_as ?_
        refine L_nil ?_
        refine E_n ?_
        refine C_ret ?_
        show bodyPost Try.prog Try.f17 (Rt Q) .ret _ _
        refine post_res [.cell 4 27, .tmp 5] (.inr rfl) rfl ?_
        refine res_ldn 4 27 ag27 (by exact h) (fun _ hr0 h => ?_)
        exact ⟨[_, _], ⟨hr0, rv_tmp, trivial⟩, h⟩

def f7 : M := smr Try.prog (Instr.build 27 #[(0, (.int .i64 10)), (1, (.int .i64 3))]) fun t6 => cl (f8 t6 (.int .i64 3)) fun t7 => ex 0 t7 fun t8 => ex 1 t7 fun t9 => smr Try.prog (Instr.build 27 #[(0, (.int .i64 4)), (1, (.int .i64 1))]) fun t11 => smr Try.prog (Instr.build 27 #[(0, (.int .i64 6)), (1, (.int .i64 3))]) fun t12 => cl (f17 t11 t12) fun t13 => ex 0 t13 fun t14 => ex 1 t13 fun t15 => al 27 #[(.int .i64 0), (.int .i64 0)] fun t3 => stn 2 t3 t14 <| gd t9 true (idv t8) fun t18 => gd t9 true (eqi .i64 t18 (.int .i64 13)) fun t19 => pk t9 t19 (.bool false) fun t20 => gd t20 true (idv t15) fun t22 => pk t20 t22 (.bool false) fun t23 => gd t23 true (ldn 2 t3) fun t25 => gd t23 true (smr Try.prog (Instr.build 27 #[(0, (.int .i64 12)), (1, (.int .i64 9))])) fun t26 => gd t23 true (smr Try.prog (do eqGuard .eql 27 (.tmp 25) (.tmp 26) t25 t26; binOp .eql 27 t25 t26)) fun t27 => pk t23 t27 (.bool false) fun t28 => gd t28 true (smr Try.prog (Instr.build 27 #[(0, (.int .i64 10)), (1, (.int .i64 3))])) fun t30 => gd t28 true (cl (f15 t30 (.int .i64 0) (.int .i64 24))) fun t31 => gd t28 true (eqi .i64 t31 (.int .i64 3)) fun t32 => pk t28 t32 (.bool false) fun t33 => rt t33
theorem s7 (w : World) (Q : Value → World → Prop) (h : f7 w Q) : Calls Try.prog 7 #[] w (Rt Q) := by
  refine calls_of (l := []) Try.func7 rfl Try.ntmps7 (Nat.le_of_ble_eq_true rfl) ?_
  unfold f7 at h
  refine wp_seq ?_
  refine L_region ?_
  refine L_as ?_
  refine L_nil ?_
  refine E_n ?_
  refine wp_seq ?_
  refine L_region ?_
  refine L_u (N_bld h) ?_
  intro v w h
  refine L_u (N_cl Try.func8 rfl nn8 (fun w Q h => s8 _ _ w Q h) h) ?_
  intro v w h
  refine L_mv ?_
  refine L_u (P_ex h) ?_
  intro v w h
  refine L_u (P_ex h) ?_
  intro v w h
  refine L_as ?_
  refine L_as ?_
  refine L_nil ?_
  refine E_n ?_
  refine wp_seq ?_
  refine L_region ?_
  refine L_u (N_bld h) ?_
  intro v w h
  refine L_u (N_bld h) ?_
  intro v w h
  refine L_u (N_cl Try.func17 rfl nn17 (fun w Q h => s17 _ _ w Q h) h) ?_
  intro v w h
  refine L_mv ?_
  refine L_u (P_ex h) ?_
  intro v w h
  refine L_u (P_ex h) ?_
  intro v w h
  refine L_u (P_al ze27 rfl h) ?_
  intro v w h
  refine L_u (P_stn ag27 h) ?_
  intro w h
  refine L_as ?_
  refine L_nil ?_
  refine E_n ?_
  refine wp_seq ?_
  refine L_region ?_
  refine L_mv ?_
  refine L_mv ?_
  refine L_g (t := 17) h rfl rfl (fun c h => P_mv h c) ?_
  intro v w h
  refine L_g (t := 17) h rfl rfl (fun c h => P_eqi h c) ?_
  intro v w h
  refine L_u (P_pk h) ?_
  intro v w h
  refine L_mv ?_
  refine L_g (t := 21) h rfl rfl (fun c h => P_mv h c) ?_
  intro v w h
  refine L_u (P_pk h) ?_
  intro v w h
  refine L_mv ?_
  refine L_g (t := 24) h rfl rfl (fun c h => P_ldn ag27 h c) ?_
  intro v w h
  refine L_g (t := 24) h rfl rfl (fun c h => N_bld h c) ?_
  intro v w h
  refine L_g (t := 24) h rfl rfl (fun c h => P_smr rfl h c) ?_
  intro v w h
  refine L_u (P_pk h) ?_
  intro v w h
  refine L_mv ?_
  refine L_g (t := 29) h rfl rfl (fun c h => N_bld h c) ?_
  intro v w h
  refine L_g (t := 29) h rfl rfl (fun c h => N_cl Try.func15 rfl nn15 (fun w Q h => s15 _ _ _ w Q h) h c) ?_
  intro v w h
  refine L_g (t := 29) h rfl rfl (fun c h => P_eqi h c) ?_
  intro v w h
  refine L_u (P_pk h) ?_
  intro v w h
  refine L_as ?_
  refine L_nil ?_
  refine E_n ?_
  refine C_ret ?_
  show bodyPost Try.prog Try.f7 (Rt Q) .ret _ _
  exact post_tmps (ts := [0]) (.inr rfl) rfl h

def f9 (t0 : Value) : M := bx 23 t0 fun t1 => al 27 #[(.int .i64 0), (.int .i64 0)] fun t2 => fa 0 t1 fun t3 => ld t3 fun t4 => fa 1 t1 fun t5 => ld t5 fun t6 => smr Try.prog (Instr.build 27 #[(0, t4), (1, t6)]) fun t7 => stn 2 t2 t7 <| ldn 2 t2 fun r0 => rt r0
theorem s9 (t0 : Value) (w : World) (Q : Value → World → Prop) (h : f9 t0 w Q) : Calls Try.prog 9 #[t0] w (Rt Q) := by
  refine calls_of (l := [t0]) Try.func9 rfl Try.ntmps9 (Nat.le_of_ble_eq_true rfl) ?_
  unfold f9 at h
  refine wp_seq ?_
  refine L_region ?_
  refine L_u (P_bx h) ?_
  intro v w h
  refine L_u (P_al ze27 rfl h) ?_
  intro v w h
  refine L_nil ?_
  refine E_n ?_
  refine wp_seq ?_
  refine L_region ?_
  refine L_u (P_fa fo23_0 h) ?_
  intro v w h
  refine L_u (P_ld sc2 h) ?_
  intro v w h
  refine L_u (P_fa fo23_1 h) ?_
  intro v w h
  refine L_u (P_ld sc2 h) ?_
  intro v w h
  refine L_u (N_bld h) ?_
  intro v w h
  refine L_u (P_stn ag27 h) ?_
  intro w h
  refine L_nil ?_
  refine E_n ?_
  refine C_ret ?_
  show bodyPost Try.prog Try.f9 (Rt Q) .ret _ _
  refine post_res [.cell 2 27] (.inr rfl) rfl ?_
  refine res_ldn 2 27 ag27 (by exact h) (fun _ hr0 h => ?_)
  exact ⟨[_], ⟨hr0, trivial⟩, h⟩

def f12 (t0 : Value) : M := bx 23 t0 fun t1 => fa 0 t1 fun t3 => ld t3 fun t4 => ge .i64 t4 (.int .i64 1) fun t5 => gd t5 true (fa 0 t1) fun t7 => gd t5 true (ld t7) fun t8 => gd t5 true (le .i64 t8 (.int .i64 1099511627776)) fun t9 => pk t5 t9 (.bool false) fun t10 => gd t10 true (fa 1 t1) fun t12 => gd t10 true (ld t12) fun t13 => gd t10 true (ge .i64 t13 (.int .i64 0)) fun t14 => pk t10 t14 (.bool false) fun t15 => gd t15 true (fa 1 t1) fun t17 => gd t15 true (ld t17) fun t18 => gd t15 true (fa 0 t1) fun t19 => gd t15 true (ld t19) fun t20 => gd t15 true (lt .i64 t18 t20) fun t21 => pk t15 t21 (.bool false) fun t22 => rt t22
theorem s12 (t0 : Value) (w : World) (Q : Value → World → Prop) (h : f12 t0 w Q) : Calls Try.prog 12 #[t0] w (Rt Q) := by
  refine calls_of (l := [t0]) Try.func12 rfl Try.ntmps12 (Nat.le_of_ble_eq_true rfl) ?_
  unfold f12 at h
  refine wp_seq ?_
  refine L_region ?_
  refine L_u (P_bx h) ?_
  intro v w h
  refine L_as ?_
  refine L_nil ?_
  refine E_n ?_
  refine wp_seq ?_
  refine L_region ?_
  refine L_u (P_fa fo23_0 h) ?_
  intro v w h
  refine L_u (P_ld sc2 h) ?_
  intro v w h
  refine L_u (P_ge h) ?_
  intro v w h
  refine L_mv ?_
  refine L_g (t := 6) h rfl rfl (fun c h => P_fa fo23_0 h c) ?_
  intro v w h
  refine L_g (t := 6) h rfl rfl (fun c h => P_ld sc2 h c) ?_
  intro v w h
  refine L_g (t := 6) h rfl rfl (fun c h => P_le h c) ?_
  intro v w h
  refine L_u (P_pk h) ?_
  intro v w h
  refine L_mv ?_
  refine L_g (t := 11) h rfl rfl (fun c h => P_fa fo23_1 h c) ?_
  intro v w h
  refine L_g (t := 11) h rfl rfl (fun c h => P_ld sc2 h c) ?_
  intro v w h
  refine L_g (t := 11) h rfl rfl (fun c h => P_ge h c) ?_
  intro v w h
  refine L_u (P_pk h) ?_
  intro v w h
  refine L_mv ?_
  refine L_g (t := 16) h rfl rfl (fun c h => P_fa fo23_1 h c) ?_
  intro v w h
  refine L_g (t := 16) h rfl rfl (fun c h => P_ld sc2 h c) ?_
  intro v w h
  refine L_g (t := 16) h rfl rfl (fun c h => P_fa fo23_0 h c) ?_
  intro v w h
  refine L_g (t := 16) h rfl rfl (fun c h => P_ld sc2 h c) ?_
  intro v w h
  refine L_g (t := 16) h rfl rfl (fun c h => P_lt h c) ?_
  intro v w h
  refine L_u (P_pk h) ?_
  intro v w h
  refine L_as ?_
  refine L_nil ?_
  refine E_n ?_
  refine C_ret ?_
  show bodyPost Try.prog Try.f12 (Rt Q) .ret _ _
  exact post_tmps (ts := [2]) (.inr rfl) rfl h

def f24 (t0 : Value) : M := ge .i64 t0 (.int .i64 (-1152921504606846976)) fun t4 => gd t4 true (idv t0) fun t6 => gd t4 true (le .i64 t6 (.int .i64 1152921504606846976)) fun t7 => pk t4 t7 (.bool false) fun t8 => rt t8
theorem s24 (t0 : Value) (w : World) (Q : Value → World → Prop) (h : f24 t0 w Q) : Calls Try.prog 24 #[t0] w (Rt Q) := by
  refine calls_of (l := [t0]) Try.func24 rfl Try.ntmps24 (Nat.le_of_ble_eq_true rfl) ?_
  unfold f24 at h
  refine wp_seq ?_
  refine L_region ?_
  refine L_as ?_
  refine L_nil ?_
  refine E_n ?_
  refine wp_seq ?_
  refine L_region ?_
  refine L_mv ?_
  refine L_u (P_ge h) ?_
  intro v w h
  refine L_mv ?_
  refine L_g (t := 5) h rfl rfl (fun c h => P_mv h c) ?_
  intro v w h
  refine L_g (t := 5) h rfl rfl (fun c h => P_le h c) ?_
  intro v w h
  refine L_u (P_pk h) ?_
  intro v w h
  refine L_as ?_
  refine L_nil ?_
  refine E_n ?_
  refine C_ret ?_
  show bodyPost Try.prog Try.f24 (Rt Q) .ret _ _
  exact post_tmps (ts := [2]) (.inr rfl) rfl h

def f10_b2 (j1 : Value → M) (self2 : Value → Value → Value → M) (t1_1 t2_1 t6 : Value) : M := le .i64 t6 t1_1 fun t26 => cnd t26 ( fa 0 t2_1 fun t28 => ld t28 fun t29 => ad .i64 t6 t29 fun t30 => self2 t1_1 t2_1 t30 ) ( j1 t6 )
def f10_j1 (t6_1 : Value) : M := rt (.tuple #[t6_1, (.bool true)])
def f10 (t0 t1 : Value) : M := bx 23 t0 fun t2 => ldn 2 t2 fun t7 => cl (f12 t7) fun t8 => nt t8 fun t9 => gd t9 false (idv t1) fun t11 => gd t9 false (cl (f24 t11)) fun t12 => gd t9 false (nt t12) fun t13 => pk t9 (.bool true) t13 fun t14 => cnd t14 ( rt (.tuple #[(.int .i64 0), (.bool false)]) ) ( fa 1 t2 fun t17 => ld t17 fun t18 => su .i64 t1 t18 fun t19 => fa 0 t2 fun t20 => ld t20 fun t21 => re .i64 t19 t21 fun t22 => su .i64 t1 t22 fun t23 => jn (fun (j1 : Value → M) => lo (fun _ _ _ => bot) (f10_b2 j1) (fun l => l t1 t2 t23) ) (f10_j1) )
def f13 (t0 t1 : Value) : M := bx 27 t0 fun t2 => ldn 2 t2 fun t5 => cl (f11 t5) fun t6 => gd t6 true (idv t1) fun t8 => gd t6 true (cl (f22 t8)) fun t9 => pk t6 t9 (.bool false) fun t10 => gd t10 true (ldn 2 t2) fun t12 => gd t10 true (idv t1) fun t13 => gd t10 true (cl (f23 t12 t13)) fun t14 => gd t10 true (idv t1) fun t15 => gd t10 true (eqi .i64 t14 t15) fun t16 => pk t10 t16 (.bool false) fun t17 => rt t17
theorem s13 (t0 t1 : Value) (w : World) (Q : Value → World → Prop) (h : f13 t0 t1 w Q) : Calls Try.prog 13 #[t0, t1] w (Rt Q) := by
  refine calls_of (l := [t0, t1]) Try.func13 rfl Try.ntmps13 (Nat.le_of_ble_eq_true rfl) ?_
  unfold f13 at h
  refine wp_seq ?_
  refine L_region ?_
  refine L_u (P_bx h) ?_
  intro v w h
  refine L_as ?_
  refine L_nil ?_
  refine E_n ?_
  refine wp_seq ?_
  refine L_region ?_
  refine L_u (P_ldn ag27 h) ?_
  intro v w h
  refine L_u (N_cl Try.func11 rfl nn11 (fun w Q h => s11 _ w Q h) h) ?_
  intro v w h
  refine L_mv ?_
  refine L_g (t := 7) h rfl rfl (fun c h => P_mv h c) ?_
  intro v w h
  refine L_g (t := 7) h rfl rfl (fun c h => N_cl Try.func22 rfl nn22 (fun w Q h => s22 _ w Q h) h c) ?_
  intro v w h
  refine L_u (P_pk h) ?_
  intro v w h
  refine L_mv ?_
  refine L_g (t := 11) h rfl rfl (fun c h => P_ldn ag27 h c) ?_
  intro v w h
  refine L_g (t := 11) h rfl rfl (fun c h => P_mv h c) ?_
  intro v w h
  refine L_g (t := 11) h rfl rfl (fun c h => N_cl Try.func23 rfl nn23 (fun w Q h => s23 _ _ w Q h) h c) ?_
  intro v w h
  refine L_g (t := 11) h rfl rfl (fun c h => P_mv h c) ?_
  intro v w h
  refine L_g (t := 11) h rfl rfl (fun c h => P_eqi h c) ?_
  intro v w h
  refine L_u (P_pk h) ?_
  intro v w h
  refine L_as ?_
  refine L_nil ?_
  refine E_n ?_
  refine C_ret ?_
  show bodyPost Try.prog Try.f13 (Rt Q) .ret _ _
  exact post_tmps (ts := [4]) (.inr rfl) rfl h

def f14 (t0 t1 : Value) : M := bx 23 t0 fun t2 => ldn 2 t2 fun t5 => cl (f12 t5) fun t6 => gd t6 true (idv t1) fun t8 => gd t6 true (cl (f24 t8)) fun t9 => pk t6 t9 (.bool false) fun t10 => gd t10 true (idv t1) fun t12 => gd t10 true (fa 1 t2) fun t13 => gd t10 true (ld t13) fun t14 => gd t10 true (su .i64 t12 t14) fun t15 => gd t10 true (fa 0 t2) fun t16 => gd t10 true (ld t16) fun t17 => gd t10 true (re .i64 t15 t17) fun t18 => gd t10 true (eqi .i64 t18 (.int .i64 0)) fun t19 => pk t10 t19 (.bool false) fun t20 => rt t20
def f25_j1 (t6 : Value) : M := rt t6
def f25 (t0 t1 : Value) : M := bx 23 t0 fun t2 => su .i64 t1 (.int .i64 1) fun t8 => fa 1 t2 fun t10 => ld t10 fun t11 => su .i64 t8 t11 fun t12 => fa 0 t2 fun t13 => ld t13 fun t14 => qu .i64 t12 t14 fun t15 => fa 1 t2 fun t17 => ld t17 fun t18 => su .i64 t8 t18 fun t19 => fa 0 t2 fun t20 => ld t20 fun t21 => re .i64 t19 t21 fun t22 => lt .i64 t22 (.int .i64 0) fun t23 => jn (fun (j1 : Value → M) => cnd t23 ( su .i64 t15 (.int .i64 1) fun t25 => j1 t25 ) ( j1 t15 ) ) (f25_j1)
def f16 (t0 t1 t2 : Value) : M := bx 23 t0 fun t3 => ldn 2 t3 fun t7 => cl (f12 t7) fun t8 => nt t8 fun t9 => gd t9 false (idv t1) fun t11 => gd t9 false (cl (f24 t11)) fun t12 => gd t9 false (nt t12) fun t13 => pk t9 (.bool true) t13 fun t14 => gd t14 false (idv t2) fun t16 => gd t14 false (cl (f24 t16)) fun t17 => gd t14 false (nt t17) fun t18 => pk t14 (.bool true) t18 fun t19 => gd t19 false (idv t2) fun t21 => gd t19 false (idv t1) fun t22 => gd t19 false (le .i64 t21 t22) fun t23 => pk t19 (.bool true) t23 fun t24 => cnd t24 ( rt (.int .i64 0) ) ( dr <| ldn 2 t3 fun t25 => idv t2 fun t26 => ldn 2 t3 fun t28 => idv t1 fun t29 => cl (f25 t25 t26) fun t27 => kp (Kldn 2 t3 t28) <| cl (f25 t28 t29) fun t30 => su .i64 t27 t30 fun t31 => idv t31 fun t6 => rt t6 )
def f3 (t0 t1 t2 : Value) : M := bx 23 t0 fun t3 => cl (f7) fun t11 => nt t11 fun t12 => cnd t12 ( rt (.bool false) ) ( ldn 2 t3 fun t14 => cl (f9 t14) fun t15 => cl (f8 t15 t1) fun t17 => ex 0 t17 fun t18 => ex 1 t17 fun t19 => ldn 2 t3 fun t21 => cl (f10 t21 t1) fun t23 => ex 0 t23 fun t24 => ex 1 t23 fun t25 => dr <| ldn 2 t3 fun t26 => ldn 2 t3 fun t29 => cl (f9 t26) fun t27 => kp (Kldn 2 t3 t29) <| cl (f11 t27) fun t28 => kp (Kldn 2 t3 t29) <| cl (f12 t29) fun t30 => eqb t28 t30 fun t31 => idv t31 fun t32 => gd t32 true (idv t18) fun t33 => gd t32 true (idv t24) fun t34 => gd t32 true (eqi .i64 t33 t34) fun t35 => pk t32 t35 (.bool false) fun t36 => idv t36 fun t37 => gd t37 true (idv t19) fun t38 => gd t37 true (idv t25) fun t39 => gd t37 true (eqb t38 t39) fun t40 => pk t37 t40 (.bool false) fun t41 => idv t41 fun t42 => gd t42 true (ldn 2 t3) fun t43 => gd t42 true (idv t1) fun t45 => gd t42 true (ldn 2 t3) fun t47 => gd t42 true (idv t1) fun t48 => gd t42 true (cl (f9 t43)) fun t44 => kp (fun w => gdB t42 true = true → Kldn 2 t3 t47 w) <| gd t42 true (cl (f13 t44 t45)) fun t46 => kp (fun w => gdB t42 true = true → Kldn 2 t3 t47 w) <| gd t42 true (cl (f14 t47 t48)) fun t49 => gd t42 true (eqb t46 t49) fun t50 => pk t42 t50 (.bool false) fun t51 => idv t51 fun t52 => gd t52 true (ldn 2 t3) fun t53 => gd t52 true (idv t1) fun t55 => gd t52 true (idv t2) fun t56 => gd t52 true (ldn 2 t3) fun t58 => gd t52 true (idv t1) fun t59 => gd t52 true (idv t2) fun t60 => gd t52 true (cl (f9 t53)) fun t54 => kp (fun w => gdB t52 true = true → Kldn 2 t3 t58 w) <| gd t52 true (cl (f15 t54 t55 t56)) fun t57 => kp (fun w => gdB t52 true = true → Kldn 2 t3 t58 w) <| gd t52 true (cl (f16 t58 t59 t60)) fun t61 => gd t52 true (eqi .i64 t57 t61) fun t62 => pk t52 t62 (.bool false) fun t63 => idv t63 fun t6 => rt t6 )
def f18_b2 (j1 : Value → M) (self2 : Value → Value → M) (t0_1 t1_1 : Value) : M := nei .i64 t1_1 (.int .i64 0) fun t6 => cnd t6 ( dr <| idv t1_1 fun t7 => idv t0_1 fun t8 => idv t1_1 fun t9 => re .i64 t8 t9 fun t10 => idv t7 fun t0_2 => idv t10 fun t1_2 => self2 t0_2 t1_2 ) ( j1 t0_1 )
def f18_j1 (t0_3 : Value) : M := rt t0_3
def f18 (t0 t1 : Value) : M := jn (fun (j1 : Value → M) => lo (fun _ _ => bot) (f18_b2 j1) (fun l => l t0 t1) ) (f18_j1)
theorem s18 (t0 t1 : Value) (w : World) (Q : Value → World → Prop) (h : f18 t0 t1 w Q) : Calls Try.prog 18 #[t0, t1] w (Rt Q) := by
  refine calls_of (l := [t0, t1]) Try.func18 rfl Try.ntmps18 (Nat.le_of_ble_eq_true rfl) ?_
  unfold f18 at h
  refine wp_seq ?_
  refine L_region ?_
  refine L_as ?_
  refine L_nil ?_
  refine E_n ?_
  refine wp_seq ?_
  refine C_join (fun (k : Value → M) (ρ : Nat → Value) => k (ρ 0)) h (fun j1 J1 h => ?_) (fun ρ w h => ?_)
  · refine C_blk ?_
    refine C_lo (fun (l : Value → Value → M) (ρ : Nat → Value) => l (ρ 0) (ρ 1)) h (fun ρ w h => h) (fun nx self2 L2 ρ w h => ?_)
    unfold f18_b2 at h
    refine wp_seq ?_
    refine wp_seq ?_
    refine L_region ?_
    refine L_mv ?_
    refine L_u (P_nei h) ?_
    intro v w h
    refine L_nil ?_
    refine E_n ?_
    refine C_cnd h (fun h => ?_) (fun h => ?_)
    · refine C_skip ?_
      refine E_n ?_
      refine C_blk ?_
      refine D_region (by decide +kernel) 6 rfl ?_
      replace h := dr_e h
      refine G_p 0 rfl (by decide +kernel) (Y_mv h) ?_
      intro v h
      refine G_p 1 rfl (by decide +kernel) (Y_mv h) ?_
      intro v h
      refine G_p 2 rfl (by decide +kernel) (Y_mv h) ?_
      intro v h
      refine G_p 3 rfl (by decide +kernel) (Y_re h) ?_
      intro v h
      refine G_p 4 rfl (by decide +kernel) (Y_as h) ?_
      intro v h
      refine G_p 5 rfl (by decide +kernel) (Y_as h) ?_
      intro v h
      refine G_done (by decide +kernel) ?_
      refine B_n ?_
      refine E_n ?_
      exact L2 _ _ h
    · refine C_exit ?_
      refine E_x ?_
      refine E_x ?_
      refine B_x ?_
      exact J1 _ _ h
  · unfold f18_j1 at h
    refine E_n ?_
    refine wp_seq ?_
    refine L_region ?_
    refine L_mv ?_
    refine L_as ?_
    refine L_nil ?_
    refine E_n ?_
    refine C_ret ?_
    show bodyPost Try.prog Try.f18 (Rt Q) .ret _ _
    exact post_tmps (ts := [4]) (.inr rfl) rfl h

def f4_j1 (t2_1 t3_1 t4_1 t7_4 t8_4 : Value) : M := ldn 2 t3_1 fun t21 => cl (f9 t21) fun t22 => cl (f13 t22 t2_1) fun t24 => gd t24 true (ldn 2 t4_1) fun t26 => gd t24 true (cl (f9 t26)) fun t27 => gd t24 true (idv t2_1) fun t28 => gd t24 true (cl (f13 t27 t28)) fun t29 => pk t24 t29 (.bool false) fun t30 => nt t8_4 fun t32 => cnd t32 ( dr <| ldn 2 t3_1 fun t33 => cl (f9 t33) fun t34 => cl (f11 t34) fun t35 => idv t35 fun t36 => gd t36 true (ldn 2 t4_1) fun t37 => gd t36 true (cl (f9 t37)) fun t38 => gd t36 true (cl (f11 t38)) fun t39 => pk t36 t39 (.bool false) fun t40 => idv t40 fun t41 => gd t41 true (fa 0 t3_1) fun t42 => gd t41 true (ld t42) fun t43 => gd t41 true (fa 0 t3_1) fun t44 => gd t41 true (ld t44) fun t45 => gd t41 true (fa 0 t4_1) fun t46 => gd t41 true (ld t46) fun t47 => gd t41 true (fa 0 t4_1) fun t50 => gd t41 true (ld t50) fun t51 => gd t41 true (qu .i64 (.int .i64 1099511627776) t51) fun t52 => gd t41 true (cl (f18 t45 t47)) fun t48 => kp (fun w => gdB t41 true = true → Kld t50 t51 w) <| kp (fun w => gdB t41 true = true → Kld t42 t43 w) <| gd t41 true (qu .i64 t43 t48) fun t49 => gd t41 true (gt .i64 t49 t52) fun t53 => pk t41 t53 (.bool false) fun t54 => idv t54 fun t10 => ldn 2 t7_4 fun t55 => smr Try.prog (Instr.build 27 #[]) fun t56 => smr Try.prog (do eqGuard .eql 27 (.tmp 55) (.tmp 56) t55 t56; binOp .eql 27 t55 t56) fun t57 => gd t57 true (idv t30) fun t59 => gd t57 true (nt t59) fun t60 => gd t57 true (idv t60) fun t61 => gd t61 false (idv t10) fun t62 => gd t57 true (pk t61 (.bool true) t62) fun t63 => pk t57 t63 (.bool false) fun t64 => rt t64 ) ( ldn 2 t7_4 fun t65 => cl (f11 t65) fun t66 => gd t66 true (ldn 2 t7_4) fun t68 => gd t66 true (idv t2_1) fun t69 => gd t66 true (cl (f13 t68 t69)) fun t70 => gd t66 true (idv t30) fun t71 => gd t66 true (eqb t70 t71) fun t72 => pk t66 t72 (.bool false) fun t73 => gd t73 true (fa 0 t7_4) fun t75 => gd t73 true (ld t75) fun t76 => gd t73 true (fa 0 t3_1) fun t77 => gd t73 true (ld t77) fun t78 => gd t73 true (re .i64 t76 t78) fun t79 => gd t73 true (eqi .i64 t79 (.int .i64 0)) fun t80 => pk t73 t80 (.bool false) fun t81 => gd t81 true (fa 0 t7_4) fun t83 => gd t81 true (ld t83) fun t84 => gd t81 true (fa 0 t4_1) fun t85 => gd t81 true (ld t85) fun t86 => gd t81 true (re .i64 t84 t86) fun t87 => gd t81 true (eqi .i64 t87 (.int .i64 0)) fun t88 => pk t81 t88 (.bool false) fun t89 => rt t89 )
def f4 (t0 t1 t2 : Value) : M := bx 23 t0 fun t3 => bx 23 t1 fun t4 => cl (f7) fun t11 => nt t11 fun t12 => cnd t12 ( rt (.bool false) ) ( jn (fun (j1 : Value → Value → Value → Value → Value → M) => dr <| ldn 2 t3 fun t14 => ldn 2 t4 fun t16 => amb ( cl (f9 t14) fun t15 => kp (Kldn 2 t4 t16) <| amb ( cl (f9 t16) fun t17 => amb ( cl (f17 t15 t17) fun t18 => idv t18 fun t13 => ex 0 t13 fun t19 => ex 1 t13 fun t20 => al 27 #[(.int .i64 0), (.int .i64 0)] fun t7_3 => kp (Kldn 2 t4 t16) <| kp (Kldn 2 t3 t14) <| stn 2 t7_3 t19 <| idv t20 fun t8 => j1 t2 t3 t4 t7_3 t8 ) ( al 27 #[(.int .i64 0), (.int .i64 0)] fun t7_2 => kp (Kldn 2 t4 t16) <| kp (Kldn 2 t3 t14) <| cl (f17 t15 t17) fun t18_1 => idv t18_1 fun t13_1 => ex 0 t13_1 fun t19_1 => ex 1 t13_1 fun t20_1 => stn 2 t7_2 t19_1 <| idv t20_1 fun t8_1 => j1 t2 t3 t4 t7_2 t8_1 ) ) ( al 27 #[(.int .i64 0), (.int .i64 0)] fun t7_1 => kp (Kldn 2 t4 t16) <| kp (Kldn 2 t3 t14) <| cl (f9 t16) fun t17_1 => cl (f17 t15 t17_1) fun t18_2 => idv t18_2 fun t13_2 => ex 0 t13_2 fun t19_2 => ex 1 t13_2 fun t20_2 => stn 2 t7_1 t19_2 <| idv t20_2 fun t8_2 => j1 t2 t3 t4 t7_1 t8_2 ) ) ( al 27 #[(.int .i64 0), (.int .i64 0)] fun t7 => kp (Kldn 2 t4 t16) <| kp (Kldn 2 t3 t14) <| cl (f9 t14) fun t15_1 => kp (Kldn 2 t4 t16) <| cl (f9 t16) fun t17_2 => cl (f17 t15_1 t17_2) fun t18_3 => idv t18_3 fun t13_3 => ex 0 t13_3 fun t19_3 => ex 1 t13_3 fun t20_3 => stn 2 t7 t19_3 <| idv t20_3 fun t8_3 => j1 t2 t3 t4 t7 t8_3 ) ) (f4_j1) )
theorem s4 (t0 t1 t2 : Value) (w : World) (Q : Value → World → Prop) (h : f4 t0 t1 t2 w Q) : Calls Try.prog 4 #[t0, t1, t2] w (Rt Q) := by
  refine calls_of (l := [t0, t1, t2]) Try.func4 rfl Try.ntmps4 (Nat.le_of_ble_eq_true rfl) ?_
  unfold f4 at h
  refine wp_seq ?_
  refine L_region ?_
  refine L_u (P_bx h) ?_
  intro v w h
  refine L_u (P_bx h) ?_
  intro v w h
  refine L_as ?_
  refine L_nil ?_
  refine E_n ?_
  refine wp_seq ?_
  refine wp_seq ?_
  refine L_region ?_
  refine L_u (N_cl Try.func7 rfl nn7 (fun w Q h => s7 w Q h) h) ?_
  intro v w h
  refine L_u (P_nt h) ?_
  intro v w h
  refine L_nil ?_
  refine E_n ?_
  refine C_cnd h (fun h => ?_) (fun h => ?_)
  · refine wp_seq ?_
    refine L_region ?_
    refine L_as ?_
    refine L_nil ?_
    refine E_n ?_
    refine C_ret ?_
    show bodyPost Try.prog Try.f4 (Rt Q) .ret _ _
    exact post_tmps (ts := [6]) (.inr rfl) rfl h
  · refine C_skip ?_
    refine E_n ?_
    refine wp_seq ?_
    refine C_join (fun (k : Value → Value → Value → Value → Value → M) (ρ : Nat → Value) => k (ρ 2) (ρ 3) (ρ 4) (ρ 7) (ρ 8)) h (fun j1 J1 h => ?_) (fun ρ w h => ?_)
    · refine D_region (by decide +kernel) 11 rfl ?_
      replace h := dr_e h
      refine G_r _ 0 rfl (by decide +kernel) (R_ldn ag23 h) ?_
      intro v h
      refine G_r _ 2 rfl (by decide +kernel) (R_ldn ag23 h) ?_
      intro v h
      refine G_two (i := 1) (j := 8) (by decide +kernel) (G_op rfl (N_cl Try.func9 rfl nn9 (fun w Q h => s9 _ w Q h) (amb_1 h) ?_)) (G_op rfl (P_al ze27 rfl (amb_2 h) ?_))
      · intro v w h
        refine ⟨keepF_cons (kp_1 h) (keepF_dep [0] (by decide +kernel) rfl keepF_nil), ?_⟩
        replace h := (kp_2 h)
        refine G_two (i := 3) (j := 8) (by decide +kernel) (G_op rfl (N_cl Try.func9 rfl nn9 (fun w Q h => s9 _ w Q h) (amb_1 h) ?_)) (G_op rfl (P_al ze27 rfl (amb_2 h) ?_))
        · intro v w h
          refine ⟨keepF_dep [2] (by decide +kernel) rfl (keepF_dep [1, 0] (by decide +kernel) rfl keepF_nil), ?_⟩
          refine G_two (i := 4) (j := 8) (by decide +kernel) (G_op rfl (N_cl Try.func17 rfl nn17 (fun w Q h => s17 _ _ w Q h) (amb_1 h) ?_)) (G_op rfl (P_al ze27 rfl (amb_2 h) ?_))
          · intro v w h
            refine ⟨keepF_dep [3, 2] (by decide +kernel) rfl (keepF_dep [1, 0] (by decide +kernel) rfl keepF_nil), ?_⟩
            refine G_p 5 rfl (by decide +kernel) (Y_mv h) ?_
            intro v h
            refine G_p 6 rfl (by decide +kernel) (Y_ex h) ?_
            intro v h
            refine G_p 7 rfl (by decide +kernel) (Y_ex h) ?_
            intro v h
            refine G_e 8 rfl (by decide +kernel) (P_al ze27 rfl h ?_)
            intro v w h
            refine ⟨keepF_cons (kp_1 h) (keepF_cons (kp_1 (kp_2 h)) keepF_nil), ?_⟩
            replace h := (kp_2 (kp_2 h))
            refine G_e 9 rfl (by decide +kernel) (P_stn ag27 h ?_)
            intro w h
            refine ⟨keepF_dep [2] (by decide +kernel) rfl (keepF_dep [0] (by decide +kernel) rfl keepF_nil), ?_⟩
            refine G_p 10 rfl (by decide +kernel) (Y_as h) ?_
            intro v h
            refine G_done (by decide +kernel) ?_
            exact J1 _ _ h
          · intro v w h
            refine ⟨keepF_cons (kp_1 h) (keepF_cons (kp_1 (kp_2 h)) keepF_nil), ?_⟩
            replace h := (kp_2 (kp_2 h))
            refine G_e 4 rfl (by decide +kernel) (N_cl Try.func17 rfl nn17 (fun w Q h => s17 _ _ w Q h) h ?_)
            intro v w h
            refine ⟨keepF_dep [3, 2] (by decide +kernel) rfl (keepF_dep [1, 0] (by decide +kernel) rfl keepF_nil), ?_⟩
            refine G_p 5 rfl (by decide +kernel) (Y_mv h) ?_
            intro v h
            refine G_p 6 rfl (by decide +kernel) (Y_ex h) ?_
            intro v h
            refine G_p 7 rfl (by decide +kernel) (Y_ex h) ?_
            intro v h
            refine G_e 9 rfl (by decide +kernel) (P_stn ag27 h ?_)
            intro w h
            refine ⟨keepF_dep [2] (by decide +kernel) rfl (keepF_dep [0] (by decide +kernel) rfl keepF_nil), ?_⟩
            refine G_p 10 rfl (by decide +kernel) (Y_as h) ?_
            intro v h
            refine G_done (by decide +kernel) ?_
            exact J1 _ _ h
        · intro v w h
          refine ⟨keepF_cons (kp_1 h) (keepF_cons (kp_1 (kp_2 h)) keepF_nil), ?_⟩
          replace h := (kp_2 (kp_2 h))
          refine G_e 3 rfl (by decide +kernel) (N_cl Try.func9 rfl nn9 (fun w Q h => s9 _ w Q h) h ?_)
          intro v w h
          refine ⟨keepF_dep [2] (by decide +kernel) rfl (keepF_dep [1, 0] (by decide +kernel) rfl keepF_nil), ?_⟩
          refine G_e 4 rfl (by decide +kernel) (N_cl Try.func17 rfl nn17 (fun w Q h => s17 _ _ w Q h) h ?_)
          intro v w h
          refine ⟨keepF_dep [3, 2] (by decide +kernel) rfl (keepF_dep [1, 0] (by decide +kernel) rfl keepF_nil), ?_⟩
          refine G_p 5 rfl (by decide +kernel) (Y_mv h) ?_
          intro v h
          refine G_p 6 rfl (by decide +kernel) (Y_ex h) ?_
          intro v h
          refine G_p 7 rfl (by decide +kernel) (Y_ex h) ?_
          intro v h
          refine G_e 9 rfl (by decide +kernel) (P_stn ag27 h ?_)
          intro w h
          refine ⟨keepF_dep [2] (by decide +kernel) rfl (keepF_dep [0] (by decide +kernel) rfl keepF_nil), ?_⟩
          refine G_p 10 rfl (by decide +kernel) (Y_as h) ?_
          intro v h
          refine G_done (by decide +kernel) ?_
          exact J1 _ _ h
      · intro v w h
        refine ⟨keepF_cons (kp_1 h) (keepF_cons (kp_1 (kp_2 h)) keepF_nil), ?_⟩
        replace h := (kp_2 (kp_2 h))
        refine G_e 1 rfl (by decide +kernel) (N_cl Try.func9 rfl nn9 (fun w Q h => s9 _ w Q h) h ?_)
        intro v w h
        refine ⟨keepF_cons (kp_1 h) (keepF_dep [0] (by decide +kernel) rfl keepF_nil), ?_⟩
        replace h := (kp_2 h)
        refine G_e 3 rfl (by decide +kernel) (N_cl Try.func9 rfl nn9 (fun w Q h => s9 _ w Q h) h ?_)
        intro v w h
        refine ⟨keepF_dep [2] (by decide +kernel) rfl (keepF_dep [1, 0] (by decide +kernel) rfl keepF_nil), ?_⟩
        refine G_e 4 rfl (by decide +kernel) (N_cl Try.func17 rfl nn17 (fun w Q h => s17 _ _ w Q h) h ?_)
        intro v w h
        refine ⟨keepF_dep [3, 2] (by decide +kernel) rfl (keepF_dep [1, 0] (by decide +kernel) rfl keepF_nil), ?_⟩
        refine G_p 5 rfl (by decide +kernel) (Y_mv h) ?_
        intro v h
        refine G_p 6 rfl (by decide +kernel) (Y_ex h) ?_
        intro v h
        refine G_p 7 rfl (by decide +kernel) (Y_ex h) ?_
        intro v h
        refine G_e 9 rfl (by decide +kernel) (P_stn ag27 h ?_)
        intro w h
        refine ⟨keepF_dep [2] (by decide +kernel) rfl (keepF_dep [0] (by decide +kernel) rfl keepF_nil), ?_⟩
        refine G_p 10 rfl (by decide +kernel) (Y_as h) ?_
        intro v h
        refine G_done (by decide +kernel) ?_
        exact J1 _ _ h
    · unfold f4_j1 at h
      refine E_n ?_
      refine wp_seq ?_
      refine L_region ?_
      refine L_u (P_ldn ag23 h) ?_
      intro v w h
      refine L_u (N_cl Try.func9 rfl nn9 (fun w Q h => s9 _ w Q h) h) ?_
      intro v w h
      refine L_mv ?_
      refine L_u (N_cl Try.func13 rfl nn13 (fun w Q h => s13 _ _ w Q h) h) ?_
      intro v w h
      refine L_mv ?_
      refine L_g (t := 25) h rfl rfl (fun c h => P_ldn ag23 h c) ?_
      intro v w h
      refine L_g (t := 25) h rfl rfl (fun c h => N_cl Try.func9 rfl nn9 (fun w Q h => s9 _ w Q h) h c) ?_
      intro v w h
      refine L_g (t := 25) h rfl rfl (fun c h => P_mv h c) ?_
      intro v w h
      refine L_g (t := 25) h rfl rfl (fun c h => N_cl Try.func13 rfl nn13 (fun w Q h => s13 _ _ w Q h) h c) ?_
      intro v w h
      refine L_u (P_pk h) ?_
      intro v w h
      refine L_as ?_
      refine L_nil ?_
      refine E_n ?_
      refine wp_seq ?_
      refine wp_seq ?_
      refine L_region ?_
      refine L_mv ?_
      refine L_u (P_nt h) ?_
      intro v w h
      refine L_nil ?_
      refine E_n ?_
      refine C_cnd h (fun h => ?_) (fun h => ?_)
      · refine wp_seq ?_
        refine D_region (by decide +kernel) 23 rfl ?_
        replace h := dr_e h
        refine G_r _ 0 rfl (by decide +kernel) (R_ldn ag23 h) ?_
        intro v h
        refine G_e 1 rfl (by decide +kernel) (N_cl Try.func9 rfl nn9 (fun w Q h => s9 _ w Q h) h ?_)
        intro v w h
        refine ⟨keepF_dep [0] (by decide +kernel) rfl keepF_nil, ?_⟩
        refine G_e 2 rfl (by decide +kernel) (N_cl Try.func11 rfl nn11 (fun w Q h => s11 _ w Q h) h ?_)
        intro v w h
        refine ⟨keepF_dep [1, 0] (by decide +kernel) rfl keepF_nil, ?_⟩
        refine G_p 3 rfl (by decide +kernel) (Y_mv h) ?_
        intro v h
        refine G_rg (t := 36) _ 4 rfl (by decide +kernel) h rfl rfl (fun h => R_ldn ag23 h) ?_
        intro v h
        refine G_eg (t := 36) 5 rfl (by decide +kernel) h rfl rfl (fun c h => N_cl Try.func9 rfl nn9 (fun w Q h => s9 _ w Q h) h c) ?_
        intro v w h
        refine ⟨keepF_dep [4] (by decide +kernel) rfl (keepF_dep [3, 2, 1, 0] (by decide +kernel) rfl keepF_nil), ?_⟩
        refine G_eg (t := 36) 6 rfl (by decide +kernel) h rfl rfl (fun c h => N_cl Try.func11 rfl nn11 (fun w Q h => s11 _ w Q h) h c) ?_
        intro v w h
        refine ⟨keepF_dep [5, 4] (by decide +kernel) rfl (keepF_dep [3, 2, 1, 0] (by decide +kernel) rfl keepF_nil), ?_⟩
        refine G_p 7 rfl (by decide +kernel) (Y_pk h) ?_
        intro v h
        refine G_p 8 rfl (by decide +kernel) (Y_mv h) ?_
        intro v h
        refine G_pg (t := 41) 9 rfl (by decide +kernel) h rfl rfl (fun h => Y_fa fo23_0 h) ?_
        intro v h
        refine G_rg (t := 41) _ 10 rfl (by decide +kernel) h rfl rfl (fun h => R_ld sc2 h) ?_
        intro v h
        refine G_pg (t := 41) 11 rfl (by decide +kernel) h rfl rfl (fun h => Y_fa fo23_0 h) ?_
        intro v h
        refine G_rg (t := 41) _ 12 rfl (by decide +kernel) h rfl rfl (fun h => R_ld sc2 h) ?_
        intro v h
        refine G_pg (t := 41) 13 rfl (by decide +kernel) h rfl rfl (fun h => Y_fa fo23_0 h) ?_
        intro v h
        refine G_rg (t := 41) _ 14 rfl (by decide +kernel) h rfl rfl (fun h => R_ld sc2 h) ?_
        intro v h
        refine G_pg (t := 41) 17 rfl (by decide +kernel) h rfl rfl (fun h => Y_fa fo23_0 h) ?_
        intro v h
        refine G_rg (t := 41) _ 18 rfl (by decide +kernel) h rfl rfl (fun h => R_ld sc2 h) ?_
        intro v h
        refine G_pg (t := 41) 19 rfl (by decide +kernel) h rfl rfl (fun h => Y_qu h) ?_
        intro v h
        refine G_eg (t := 41) 15 rfl (by decide +kernel) h rfl rfl (fun c h => N_cl Try.func18 rfl nn18 (fun w Q h => s18 _ _ w Q h) h c) ?_
        intro v w h
        refine ⟨keepF_cons (kp_1 h) (keepF_dep [14] (by decide +kernel) rfl (keepF_dep [12] (by decide +kernel) rfl (keepF_cons (kp_1 (kp_2 h)) (keepF_dep [8, 6, 5, 4] (by decide +kernel) rfl (keepF_dep [8, 7, 3, 2, 1, 0] (by decide +kernel) rfl keepF_nil))))), ?_⟩
        replace h := (kp_2 (kp_2 h))
        refine G_pg (t := 41) 16 rfl (by decide +kernel) h rfl rfl (fun h => Y_qu h) ?_
        intro v h
        refine G_pg (t := 41) 20 rfl (by decide +kernel) h rfl rfl (fun h => Y_gt h) ?_
        intro v h
        refine G_p 21 rfl (by decide +kernel) (Y_pk h) ?_
        intro v h
        refine G_p 22 rfl (by decide +kernel) (Y_as h) ?_
        intro v h
        refine G_done (by decide +kernel) ?_
        refine E_n ?_
        refine wp_seq ?_
        refine L_region ?_
        refine L_u (P_ldn ag27 h) ?_
        intro v w h
        refine L_u (N_bld h) ?_
        intro v w h
        refine L_u (P_smr rfl h) ?_
        intro v w h
        refine L_mv ?_
        refine L_g (t := 58) h rfl rfl (fun c h => P_mv h c) ?_
        intro v w h
        refine L_g (t := 58) h rfl rfl (fun c h => P_nt h c) ?_
        intro v w h
        refine L_g (t := 58) h rfl rfl (fun c h => P_mv h c) ?_
        intro v w h
        refine L_g (t := 61) h rfl rfl (fun c h => P_mv h c) ?_
        intro v w h
        refine L_g (t := 58) h rfl rfl (fun c h => P_pk h c) ?_
        intro v w h
        refine L_u (P_pk h) ?_
        intro v w h
        refine L_as ?_
        refine L_nil ?_
        refine E_n ?_
        refine C_ret ?_
        show bodyPost Try.prog Try.f4 (Rt Q) .ret _ _
        exact post_tmps (ts := [6]) (.inr rfl) rfl h
      · refine C_skip ?_
        refine E_n ?_
        refine wp_seq ?_
        refine L_region ?_
        refine L_u (P_ldn ag27 h) ?_
        intro v w h
        refine L_u (N_cl Try.func11 rfl nn11 (fun w Q h => s11 _ w Q h) h) ?_
        intro v w h
        refine L_mv ?_
        refine L_g (t := 67) h rfl rfl (fun c h => P_ldn ag27 h c) ?_
        intro v w h
        refine L_g (t := 67) h rfl rfl (fun c h => P_mv h c) ?_
        intro v w h
        refine L_g (t := 67) h rfl rfl (fun c h => N_cl Try.func13 rfl nn13 (fun w Q h => s13 _ _ w Q h) h c) ?_
        intro v w h
        refine L_g (t := 67) h rfl rfl (fun c h => P_mv h c) ?_
        intro v w h
        refine L_g (t := 67) h rfl rfl (fun c h => P_eqb bo4 h c) ?_
        intro v w h
        refine L_u (P_pk h) ?_
        intro v w h
        refine L_mv ?_
        refine L_g (t := 74) h rfl rfl (fun c h => P_fa fo27_0 h c) ?_
        intro v w h
        refine L_g (t := 74) h rfl rfl (fun c h => P_ld sc2 h c) ?_
        intro v w h
        refine L_g (t := 74) h rfl rfl (fun c h => P_fa fo23_0 h c) ?_
        intro v w h
        refine L_g (t := 74) h rfl rfl (fun c h => P_ld sc2 h c) ?_
        intro v w h
        refine L_g (t := 74) h rfl rfl (fun c h => P_re h c) ?_
        intro v w h
        refine L_g (t := 74) h rfl rfl (fun c h => P_eqi h c) ?_
        intro v w h
        refine L_u (P_pk h) ?_
        intro v w h
        refine L_mv ?_
        refine L_g (t := 82) h rfl rfl (fun c h => P_fa fo27_0 h c) ?_
        intro v w h
        refine L_g (t := 82) h rfl rfl (fun c h => P_ld sc2 h c) ?_
        intro v w h
        refine L_g (t := 82) h rfl rfl (fun c h => P_fa fo23_0 h c) ?_
        intro v w h
        refine L_g (t := 82) h rfl rfl (fun c h => P_ld sc2 h c) ?_
        intro v w h
        refine L_g (t := 82) h rfl rfl (fun c h => P_re h c) ?_
        intro v w h
        refine L_g (t := 82) h rfl rfl (fun c h => P_eqi h c) ?_
        intro v w h
        refine L_u (P_pk h) ?_
        intro v w h
        refine L_as ?_
        refine L_nil ?_
        refine E_n ?_
        refine C_ret ?_
        show bodyPost Try.prog Try.f4 (Rt Q) .ret _ _
        exact post_tmps (ts := [6]) (.inr rfl) rfl h

def f5 (t0 t1 : Value) : M := bx 23 t0 fun t2 => bx 41 t1 fun t3 => cl (f7) fun t12 => nt t12 fun t13 => cnd t13 ( rt (.bool false) ) ( dr <| iaa 3 1 t3 (.int .i64 0) fun t14 => ld t14 fun t15 => iaa 3 1 t3 (.int .i64 1) fun t16 => ld t16 fun t17 => iaa 3 1 t3 (.int .i64 2) fun t18 => ld t18 fun t19 => idv t15 fun t5 => idv t17 fun t6 => idv t19 fun t7 => gt .i64 t5 t6 fun t22 => gd t22 false (idv t6) fun t24 => gd t22 false (idv t7) fun t25 => gd t22 false (gt .i64 t24 t25) fun t26 => pk t22 (.bool true) t26 fun t27 => gd t27 false (idv t5) fun t29 => gd t27 false (lt .i64 t29 (.int .i64 (-576460752303423488))) fun t30 => pk t27 (.bool true) t30 fun t31 => gd t31 false (idv t7) fun t33 => gd t31 false (gt .i64 t33 (.int .i64 576460752303423488)) fun t34 => pk t31 (.bool true) t34 fun t35 => cnd t35 ( rt (.bool true) ) ( ldn 2 t2 fun t36 => cl (f9 t36) fun t37 => al 27 #[(.int .i64 0), (.int .i64 0)] fun t8 => stn 2 t8 t37 <| ldn 2 t8 fun t39 => cl (f8 t39 t5) fun t41 => ex 0 t41 fun t42 => ex 1 t41 fun t43 => ldn 2 t8 fun t45 => cl (f11 t45) fun t46 => neb t43 t46 fun t47 => cnd t47 ( rt (.bool false) ) ( dr <| ldn 2 t8 fun t48 => idv t5 fun t49 => idv t6 fun t50 => ldn 2 t8 fun t52 => idv t6 fun t53 => idv t7 fun t54 => cl (f15 t48 t49 t50) fun t51 => kp (Kldn 2 t8 t52) <| cl (f15 t52 t53 t54) fun t55 => ad .i64 t51 t55 fun t56 => idv t56 fun t11 => ldn 2 t8 fun t57 => cl (f15 t57 t5 t7) fun t60 => eqi .i64 t60 t11 fun t62 => gd t62 true (idv t43) fun t64 => gd t62 true (nt t64) fun t65 => gd t62 true (idv t65) fun t66 => gd t66 false (idv t42) fun t67 => gd t66 false (idv t5) fun t68 => gd t66 false (gt .i64 t67 t68) fun t69 => gd t66 false (idv t69) fun t70 => gd t70 true (ldn 2 t8) fun t71 => gd t70 true (idv t42) fun t72 => gd t70 true (cl (f13 t71 t72)) fun t73 => gd t66 false (pk t70 t73 (.bool false)) fun t74 => gd t66 false (idv t74) fun t75 => gd t75 true (ldn 2 t8) fun t76 => gd t75 true (idv t5) fun t77 => gd t75 true (ad .i64 t77 (.int .i64 1)) fun t78 => gd t75 true (idv t42) fun t79 => gd t75 true (cl (f15 t76 t78 t79)) fun t80 => gd t75 true (eqi .i64 t80 (.int .i64 0)) fun t81 => gd t66 false (pk t75 t81 (.bool false)) fun t82 => gd t66 false (idv t82) fun t83 => gd t83 true (ldn 2 t8) fun t84 => gd t83 true (idv t42) fun t85 => gd t83 true (idv t42) fun t86 => gd t83 true (ad .i64 t86 (.int .i64 1)) fun t87 => gd t83 true (cl (f15 t84 t85 t87)) fun t88 => gd t83 true (eqi .i64 t88 (.int .i64 1)) fun t89 => gd t66 false (pk t83 t89 (.bool false)) fun t90 => gd t62 true (pk t66 (.bool true) t90) fun t91 => pk t62 t91 (.bool false) fun t92 => rt t92 ) ) )
theorem s5 (t0 t1 : Value) (w : World) (Q : Value → World → Prop) (h : f5 t0 t1 w Q) : Calls Try.prog 5 #[t0, t1] w (Rt Q) := by
  refine calls_of (l := [t0, t1]) Try.func5 rfl Try.ntmps5 (Nat.le_of_ble_eq_true rfl) ?_
  unfold f5 at h
  refine wp_seq ?_
  refine L_region ?_
  refine L_u (P_bx h) ?_
  intro v w h
  refine L_u (P_bx h) ?_
  intro v w h
  refine L_as ?_
  refine L_nil ?_
  refine E_n ?_
  refine wp_seq ?_
  refine wp_seq ?_
  refine L_region ?_
  refine L_u (N_cl Try.func7 rfl nn7 (fun w Q h => s7 w Q h) h) ?_
  intro v w h
  refine L_u (P_nt h) ?_
  intro v w h
  refine L_nil ?_
  refine E_n ?_
  refine C_cnd h (fun h => ?_) (fun h => ?_)
  · refine wp_seq ?_
    refine L_region ?_
    refine L_as ?_
    refine L_nil ?_
    refine E_n ?_
    refine C_ret ?_
    show bodyPost Try.prog Try.f5 (Rt Q) .ret _ _
    exact post_tmps (ts := [4]) (.inr rfl) rfl h
  · refine C_skip ?_
    refine E_n ?_
    refine wp_seq ?_
    refine D_region (by decide +kernel) 9 rfl ?_
    replace h := dr_e h
    refine G_p 0 rfl (by decide +kernel) (Y_iaa ae41 h) ?_
    intro v h
    refine G_r _ 1 rfl (by decide +kernel) (R_ld sc2 h) ?_
    intro v h
    refine G_p 2 rfl (by decide +kernel) (Y_iaa ae41 h) ?_
    intro v h
    refine G_r _ 3 rfl (by decide +kernel) (R_ld sc2 h) ?_
    intro v h
    refine G_p 4 rfl (by decide +kernel) (Y_iaa ae41 h) ?_
    intro v h
    refine G_r _ 5 rfl (by decide +kernel) (R_ld sc2 h) ?_
    intro v h
    refine G_p 6 rfl (by decide +kernel) (Y_as h) ?_
    intro v h
    refine G_p 7 rfl (by decide +kernel) (Y_as h) ?_
    intro v h
    refine G_p 8 rfl (by decide +kernel) (Y_as h) ?_
    intro v h
    refine G_done (by decide +kernel) ?_
    refine E_n ?_
    refine wp_seq ?_
    refine wp_seq ?_
    refine L_region ?_
    refine L_mv ?_
    refine L_mv ?_
    refine L_u (P_gt h) ?_
    intro v w h
    refine L_mv ?_
    refine L_g (t := 23) h rfl rfl (fun c h => P_mv h c) ?_
    intro v w h
    refine L_g (t := 23) h rfl rfl (fun c h => P_mv h c) ?_
    intro v w h
    refine L_g (t := 23) h rfl rfl (fun c h => P_gt h c) ?_
    intro v w h
    refine L_u (P_pk h) ?_
    intro v w h
    refine L_mv ?_
    refine L_g (t := 28) h rfl rfl (fun c h => P_mv h c) ?_
    intro v w h
    refine L_g (t := 28) h rfl rfl (fun c h => P_lt h c) ?_
    intro v w h
    refine L_u (P_pk h) ?_
    intro v w h
    refine L_mv ?_
    refine L_g (t := 32) h rfl rfl (fun c h => P_mv h c) ?_
    intro v w h
    refine L_g (t := 32) h rfl rfl (fun c h => P_gt h c) ?_
    intro v w h
    refine L_u (P_pk h) ?_
    intro v w h
    refine L_nil ?_
    refine E_n ?_
    refine C_cnd h (fun h => ?_) (fun h => ?_)
    · refine wp_seq ?_
      refine L_region ?_
      refine L_as ?_
      refine L_nil ?_
      refine E_n ?_
      refine C_ret ?_
      show bodyPost Try.prog Try.f5 (Rt Q) .ret _ _
      exact post_tmps (ts := [4]) (.inr rfl) rfl h
    · refine C_skip ?_
      refine E_n ?_
      refine wp_seq ?_
      refine L_region ?_
      refine L_u (P_ldn ag23 h) ?_
      intro v w h
      refine L_u (N_cl Try.func9 rfl nn9 (fun w Q h => s9 _ w Q h) h) ?_
      intro v w h
      refine L_u (P_al ze27 rfl h) ?_
      intro v w h
      refine L_u (P_stn ag27 h) ?_
      intro w h
      refine L_nil ?_
      refine E_n ?_
      refine wp_seq ?_
      refine L_region ?_
      refine L_u (P_ldn ag27 h) ?_
      intro v w h
      refine L_mv ?_
      refine L_u (N_cl Try.func8 rfl nn8 (fun w Q h => s8 _ _ w Q h) h) ?_
      intro v w h
      refine L_mv ?_
      refine L_u (P_ex h) ?_
      intro v w h
      refine L_u (P_ex h) ?_
      intro v w h
      refine L_as ?_
      refine L_as ?_
      refine L_nil ?_
      refine E_n ?_
      refine wp_seq ?_
      refine wp_seq ?_
      refine L_region ?_
      refine L_mv ?_
      refine L_u (P_ldn ag27 h) ?_
      intro v w h
      refine L_u (N_cl Try.func11 rfl nn11 (fun w Q h => s11 _ w Q h) h) ?_
      intro v w h
      refine L_u (P_neb bo4 h) ?_
      intro v w h
      refine L_nil ?_
      refine E_n ?_
      refine C_cnd h (fun h => ?_) (fun h => ?_)
      · refine wp_seq ?_
        refine L_region ?_
        refine L_as ?_
        refine L_nil ?_
        refine E_n ?_
        refine C_ret ?_
        show bodyPost Try.prog Try.f5 (Rt Q) .ret _ _
        exact post_tmps (ts := [4]) (.inr rfl) rfl h
      · refine C_skip ?_
        refine E_n ?_
        refine wp_seq ?_
        refine D_region (by decide +kernel) 10 rfl ?_
        replace h := dr_e h
        refine G_r _ 0 rfl (by decide +kernel) (R_ldn ag27 h) ?_
        intro v h
        refine G_p 1 rfl (by decide +kernel) (Y_mv h) ?_
        intro v h
        refine G_p 2 rfl (by decide +kernel) (Y_mv h) ?_
        intro v h
        refine G_r _ 4 rfl (by decide +kernel) (R_ldn ag27 h) ?_
        intro v h
        refine G_p 5 rfl (by decide +kernel) (Y_mv h) ?_
        intro v h
        refine G_p 6 rfl (by decide +kernel) (Y_mv h) ?_
        intro v h
        refine G_e 3 rfl (by decide +kernel) (N_cl Try.func15 rfl nn15 (fun w Q h => s15 _ _ _ w Q h) h ?_)
        intro v w h
        refine ⟨keepF_cons (kp_1 h) (keepF_dep [0] (by decide +kernel) rfl keepF_nil), ?_⟩
        replace h := (kp_2 h)
        refine G_e 7 rfl (by decide +kernel) (N_cl Try.func15 rfl nn15 (fun w Q h => s15 _ _ _ w Q h) h ?_)
        intro v w h
        refine ⟨keepF_dep [4] (by decide +kernel) rfl (keepF_dep [3, 0] (by decide +kernel) rfl keepF_nil), ?_⟩
        refine G_p 8 rfl (by decide +kernel) (Y_ad h) ?_
        intro v h
        refine G_p 9 rfl (by decide +kernel) (Y_as h) ?_
        intro v h
        refine G_done (by decide +kernel) ?_
        refine E_n ?_
        refine wp_seq ?_
        refine L_region ?_
        refine L_u (P_ldn ag27 h) ?_
        intro v w h
        refine L_mv ?_
        refine L_mv ?_
        refine L_u (N_cl Try.func15 rfl nn15 (fun w Q h => s15 _ _ _ w Q h) h) ?_
        intro v w h
        refine L_mv ?_
        refine L_u (P_eqi h) ?_
        intro v w h
        refine L_mv ?_
        refine L_g (t := 63) h rfl rfl (fun c h => P_mv h c) ?_
        intro v w h
        refine L_g (t := 63) h rfl rfl (fun c h => P_nt h c) ?_
        intro v w h
        refine L_g (t := 63) h rfl rfl (fun c h => P_mv h c) ?_
        intro v w h
        refine L_g (t := 66) h rfl rfl (fun c h => P_mv h c) ?_
        intro v w h
        refine L_g (t := 66) h rfl rfl (fun c h => P_mv h c) ?_
        intro v w h
        refine L_g (t := 66) h rfl rfl (fun c h => P_gt h c) ?_
        intro v w h
        refine L_g (t := 66) h rfl rfl (fun c h => P_mv h c) ?_
        intro v w h
        refine L_g (t := 70) h rfl rfl (fun c h => P_ldn ag27 h c) ?_
        intro v w h
        refine L_g (t := 70) h rfl rfl (fun c h => P_mv h c) ?_
        intro v w h
        refine L_g (t := 70) h rfl rfl (fun c h => N_cl Try.func13 rfl nn13 (fun w Q h => s13 _ _ w Q h) h c) ?_
        intro v w h
        refine L_g (t := 66) h rfl rfl (fun c h => P_pk h c) ?_
        intro v w h
        refine L_g (t := 66) h rfl rfl (fun c h => P_mv h c) ?_
        intro v w h
        refine L_g (t := 75) h rfl rfl (fun c h => P_ldn ag27 h c) ?_
        intro v w h
        refine L_g (t := 75) h rfl rfl (fun c h => P_mv h c) ?_
        intro v w h
        refine L_g (t := 75) h rfl rfl (fun c h => P_ad h c) ?_
        intro v w h
        refine L_g (t := 75) h rfl rfl (fun c h => P_mv h c) ?_
        intro v w h
        refine L_g (t := 75) h rfl rfl (fun c h => N_cl Try.func15 rfl nn15 (fun w Q h => s15 _ _ _ w Q h) h c) ?_
        intro v w h
        refine L_g (t := 75) h rfl rfl (fun c h => P_eqi h c) ?_
        intro v w h
        refine L_g (t := 66) h rfl rfl (fun c h => P_pk h c) ?_
        intro v w h
        refine L_g (t := 66) h rfl rfl (fun c h => P_mv h c) ?_
        intro v w h
        refine L_g (t := 83) h rfl rfl (fun c h => P_ldn ag27 h c) ?_
        intro v w h
        refine L_g (t := 83) h rfl rfl (fun c h => P_mv h c) ?_
        intro v w h
        refine L_g (t := 83) h rfl rfl (fun c h => P_mv h c) ?_
        intro v w h
        refine L_g (t := 83) h rfl rfl (fun c h => P_ad h c) ?_
        intro v w h
        refine L_g (t := 83) h rfl rfl (fun c h => N_cl Try.func15 rfl nn15 (fun w Q h => s15 _ _ _ w Q h) h c) ?_
        intro v w h
        refine L_g (t := 83) h rfl rfl (fun c h => P_eqi h c) ?_
        intro v w h
        refine L_g (t := 66) h rfl rfl (fun c h => P_pk h c) ?_
        intro v w h
        refine L_g (t := 63) h rfl rfl (fun c h => P_pk h c) ?_
        intro v w h
        refine L_u (P_pk h) ?_
        intro v w h
        refine L_as ?_
        refine L_nil ?_
        refine E_n ?_
        refine C_ret ?_
        show bodyPost Try.prog Try.f5 (Rt Q) .ret _ _
        exact post_tmps (ts := [4]) (.inr rfl) rfl h
end Go.Proofs.Ytnckcgpmidgggaa

set_option maxRecDepth 20000
set_option maxHeartbeats 4000000
namespace Go.Proofs.Ytnckcgpmidgggaa
open Sh
attribute [local irreducible] wpL anyG act jn lo gdB amb kp smr nc fa ld ldn st stn ad su mu qu re lt le gt ge eqi nei bws shl shr cat eqs nes lts gts eqb neb nt pk cv al bx ex fld fldn lnl lns ia iaa ixs sls sll sla mif mnm mxm mm asrt sm smu cl cc cf ci cnd gd gdu
def f33_j3 (j1 : Value → Value → M) (self2 : Value → Value → Value → Value → M) (t0_2 t1_2 t2_2 t7_1 t9 : Value) : M := ci Try.prog t0_2 "Less" #[t9, t7_1] fun t38 => nt t38 fun t39 => cnd t39 ( j1 t1_2 t7_1 ) ( ci Try.prog t0_2 "Swap" #[t7_1, t9] fun t43 => self2 t0_2 t1_2 t2_2 t9 )
def f33_b2 (j1 : Value → Value → M) (self2 : Value → Value → Value → Value → M) (t0_1 t1_1 t2_1 t7 : Value) : M := mu .i64 (.int .i64 2) t7 fun t13 => ad .i64 t13 (.int .i64 1) fun t14 => ge .i64 t14 t2_1 fun t17 => gd t17 false (idv t14) fun t19 => gd t17 false (lt .i64 t19 (.int .i64 0)) fun t20 => pk t17 (.bool true) t20 fun t21 => cnd t21 ( j1 t1_1 t7 ) ( ad .i64 t14 (.int .i64 1) fun t24 => lt .i64 t24 t2_1 fun t27 => gd t27 true (idv t0_1) fun t29 => gd t27 true (idv t24) fun t30 => gd t27 true (idv t14) fun t31 => gd t27 true (ci Try.prog t29 "Less" #[t30, t31]) fun t32 => pk t27 t32 (.bool false) fun t33 => jn (fun (j3 : Value → Value → Value → Value → Value → M) => cnd t33 ( j3 t0_1 t1_1 t2_1 t7 t24 ) ( j3 t0_1 t1_1 t2_1 t7 t14 ) ) (f33_j3 j1 self2) )
def f33_j1 (t1_3 t7_2 : Value) : M := gt .i64 t7_2 t1_3 fun t47 => rt t47
def f33 (t0 t1 t2 : Value) : M := jn (fun (j1 : Value → Value → M) => lo (fun _ _ _ _ => bot) (f33_b2 j1) (fun l => l t0 t1 t2 t1) ) (f33_j1)
theorem s33 (t0 t1 t2 : Value) (w : World) (Q : Value → World → Prop) (h : f33 t0 t1 t2 w Q) : Calls Try.prog 33 #[t0, t1, t2] w (Rt Q) := by
  refine calls_of (l := [t0, t1, t2]) Try.func33 rfl Try.ntmps33 (Nat.le_of_ble_eq_true rfl) ?_
  unfold f33 at h
  refine wp_seq ?_
  refine L_region ?_
  refine L_as ?_
  refine L_nil ?_
  refine E_n ?_
  refine wp_seq ?_
  refine L_region ?_
  refine L_mv ?_
  refine L_as ?_
  refine L_nil ?_
  refine E_n ?_
  refine wp_seq ?_
  refine C_join (fun (k : Value → Value → M) (ρ : Nat → Value) => k (ρ 1) (ρ 7)) h (fun j1 J1 h => ?_) (fun ρ w h => ?_)
  · refine C_blk ?_
    refine C_lo (fun (l : Value → Value → Value → Value → M) (ρ : Nat → Value) => l (ρ 0) (ρ 1) (ρ 2) (ρ 7)) h (fun ρ w h => h) (fun nx self2 L2 ρ w h => ?_)
    unfold f33_b2 at h
    refine C_blk ?_
    refine wp_seq ?_
    refine L_region ?_
    refine L_mv ?_
    refine L_u (P_mu h) ?_
    intro v w h
    refine L_u (P_ad h) ?_
    intro v w h
    refine L_as ?_
    refine L_nil ?_
    refine E_n ?_
    refine wp_seq ?_
    refine wp_seq ?_
    refine L_region ?_
    refine L_mv ?_
    refine L_mv ?_
    refine L_u (P_ge h) ?_
    intro v w h
    refine L_mv ?_
    refine L_g (t := 18) h rfl rfl (fun c h => P_mv h c) ?_
    intro v w h
    refine L_g (t := 18) h rfl rfl (fun c h => P_lt h c) ?_
    intro v w h
    refine L_u (P_pk h) ?_
    intro v w h
    refine L_nil ?_
    refine E_n ?_
    refine C_cnd h (fun h => ?_) (fun h => ?_)
    · refine C_exit ?_
      refine E_x ?_
      refine B_o rfl ?_
      refine E_x ?_
      refine B_x ?_
      exact J1 _ _ h
    · refine C_skip ?_
      refine E_n ?_
      refine wp_seq ?_
      refine L_region ?_
      refine L_mv ?_
      refine L_as ?_
      refine L_nil ?_
      refine E_n ?_
      refine wp_seq ?_
      refine wp_seq ?_
      refine L_region ?_
      refine L_mv ?_
      refine L_u (P_ad h) ?_
      intro v w h
      refine L_as ?_
      refine L_nil ?_
      refine E_n ?_
      refine wp_seq ?_
      refine L_region ?_
      refine L_mv ?_
      refine L_mv ?_
      refine L_u (P_lt h) ?_
      intro v w h
      refine L_mv ?_
      refine L_g (t := 28) h rfl rfl (fun c h => P_mv h c) ?_
      intro v w h
      refine L_g (t := 28) h rfl rfl (fun c h => P_mv h c) ?_
      intro v w h
      refine L_g (t := 28) h rfl rfl (fun c h => P_mv h c) ?_
      intro v w h
      refine L_g (t := 28) h rfl rfl (fun c h => N_ci h c) ?_
      intro v w h
      refine L_u (P_pk h) ?_
      intro v w h
      refine L_nil ?_
      refine E_n ?_
      refine C_join (fun (k : Value → Value → Value → Value → Value → M) (ρ : Nat → Value) => k (ρ 0) (ρ 1) (ρ 2) (ρ 7) (ρ 9)) h (fun j3 J3 h => ?_) (fun ρ w h => ?_)
      · refine C_cnd h (fun h => ?_) (fun h => ?_)
        · refine L_region ?_
          refine L_mv ?_
          refine L_as ?_
          refine L_nil ?_
          exact J3 _ _ h
        · refine C_skip ?_
          exact J3 _ _ h
      · unfold f33_j3 at h
        refine E_n ?_
        refine wp_seq ?_
        refine wp_seq ?_
        refine L_region ?_
        refine L_mv ?_
        refine L_mv ?_
        refine L_mv ?_
        refine L_u (N_ci h) ?_
        intro v w h
        refine L_u (P_nt h) ?_
        intro v w h
        refine L_nil ?_
        refine E_n ?_
        refine C_cnd h (fun h => ?_) (fun h => ?_)
        · refine C_exit ?_
          refine E_x ?_
          refine B_o rfl ?_
          refine E_x ?_
          refine B_x ?_
          exact J1 _ _ h
        · refine C_skip ?_
          refine E_n ?_
          refine wp_seq ?_
          refine L_region ?_
          refine L_mv ?_
          refine L_mv ?_
          refine L_mv ?_
          refine L_u (N_ci h) ?_
          intro v w h
          refine L_nil ?_
          refine E_n ?_
          refine L_region ?_
          refine L_mv ?_
          refine L_as ?_
          refine L_nil ?_
          refine B_n ?_
          refine E_n ?_
          exact L2 _ _ h
  · unfold f33_j1 at h
    refine E_n ?_
    refine wp_seq ?_
    refine L_region ?_
    refine L_mv ?_
    refine L_mv ?_
    refine L_u (P_gt h) ?_
    intro v w h
    refine L_as ?_
    refine L_nil ?_
    refine E_n ?_
    refine C_ret ?_
    show bodyPost Try.prog Try.f33 (Rt Q) .ret _ _
    exact post_tmps (ts := [6]) (.inr rfl) rfl h

def f29_b1 (self1 : Value → Value → Value → M) (t0_1 t2 t3 : Value) : M := ge .i64 t3 (.int .i64 0) fun t10 => cnd t10 ( cl (f33 t0_1 t3 t2) fun t16 => su .i64 t3 (.int .i64 1) fun t12 => self1 t0_1 t2 t12 ) ( rt (.tuple #[]) )
def f29 (t0 : Value) : M := ci Try.prog t0 "Len" #[] fun t5 => qu .i64 t5 (.int .i64 2) fun t7 => su .i64 t7 (.int .i64 1) fun t8 => lo (fun _ _ _ => bot) (f29_b1) (fun l => l t0 t5 t8)
theorem s29 (t0 : Value) (w : World) (Q : Value → World → Prop) (h : f29 t0 w Q) : Calls Try.prog 29 #[t0] w (Rt Q) := by
  refine calls_of (l := [t0]) Try.func29 rfl Try.ntmps29 (Nat.le_of_ble_eq_true rfl) ?_
  unfold f29 at h
  refine wp_seq ?_
  refine L_region ?_
  refine L_mv ?_
  refine L_u (N_ci h) ?_
  intro v w h
  refine L_as ?_
  refine L_nil ?_
  refine E_n ?_
  refine wp_seq ?_
  refine L_region ?_
  refine L_mv ?_
  refine L_u (P_qu h) ?_
  intro v w h
  refine L_u (P_su h) ?_
  intro v w h
  refine L_as ?_
  refine L_nil ?_
  refine E_n ?_
  refine C_blk ?_
  refine C_lo (fun (l : Value → Value → Value → M) (ρ : Nat → Value) => l (ρ 0) (ρ 2) (ρ 3)) h (fun ρ w h => h) (fun nx self1 L1 ρ w h => ?_)
  unfold f29_b1 at h
  refine wp_seq ?_
  refine wp_seq ?_
  refine L_region ?_
  refine L_mv ?_
  refine L_u (P_ge h) ?_
  intro v w h
  refine L_nil ?_
  refine E_n ?_
  refine C_cnd h (fun h => ?_) (fun h => ?_)
  · refine C_skip ?_
    refine E_n ?_
    refine wp_seq ?_
    refine C_blk ?_
    refine L_region ?_
    refine L_mv ?_
    refine L_mv ?_
    refine L_mv ?_
    refine L_u (N_cl Try.func33 rfl nn33 (fun w Q h => s33 _ _ _ w Q h) h) ?_
    intro v w h
    refine L_nil ?_
    refine B_n ?_
    refine E_n ?_
    refine L_region ?_
    refine L_mv ?_
    refine L_u (P_su h) ?_
    intro v w h
    refine L_as ?_
    refine L_nil ?_
    refine E_n ?_
    exact L1 _ _ h
  · refine C_exit ?_
    refine E_x ?_
    refine E_x ?_
    refine B_x ?_
    show bodyPost Try.prog Try.f29 (Rt Q) .normal _ _
    exact post_tmps (ts := []) (.inl rfl) rfl h

def f30 (t0 : Value) : M := lnl t0 fun t4 => rt t4
theorem s30 (t0 : Value) (w : World) (Q : Value → World → Prop) (h : f30 t0 w Q) : Calls Try.prog 30 #[t0] w (Rt Q) := by
  refine calls_of (l := [t0]) Try.func30 rfl Try.ntmps30 (Nat.le_of_ble_eq_true rfl) ?_
  unfold f30 at h
  refine wp_seq ?_
  refine L_region ?_
  refine L_as ?_
  refine L_nil ?_
  refine E_n ?_
  refine wp_seq ?_
  refine L_region ?_
  refine L_mv ?_
  refine L_u (P_lnl is56 h) ?_
  intro v w h
  refine L_as ?_
  refine L_nil ?_
  refine E_n ?_
  refine C_ret ?_
  show bodyPost Try.prog Try.f30 (Rt Q) .ret _ _
  exact post_tmps (ts := [2]) (.inr rfl) rfl h

def f34_b1 (self1 : Value → Value → M) (t0_1 t1_1 : Value) : M := su .i64 t1_1 (.int .i64 1) fun t6 => qu .i64 t6 (.int .i64 2) fun t7 => eqi .i64 t7 t1_1 fun t10 => gd t10 false (idv t0_1) fun t12 => gd t10 false (idv t1_1) fun t13 => gd t10 false (idv t7) fun t14 => gd t10 false (ci Try.prog t12 "Less" #[t13, t14]) fun t15 => gd t10 false (nt t15) fun t16 => pk t10 (.bool true) t16 fun t17 => cnd t17 ( rt (.tuple #[]) ) ( ci Try.prog t0_1 "Swap" #[t7, t1_1] fun t21 => self1 t0_1 t7 )
def f34 (t0 t1 : Value) : M := lo (fun _ _ => bot) (f34_b1) (fun l => l t0 t1)
theorem s34 (t0 t1 : Value) (w : World) (Q : Value → World → Prop) (h : f34 t0 t1 w Q) : Calls Try.prog 34 #[t0, t1] w (Rt Q) := by
  refine calls_of (l := [t0, t1]) Try.func34 rfl Try.ntmps34 (Nat.le_of_ble_eq_true rfl) ?_
  unfold f34 at h
  refine C_blk ?_
  refine C_lo (fun (l : Value → Value → M) (ρ : Nat → Value) => l (ρ 0) (ρ 1)) h (fun ρ w h => h) (fun nx self1 L1 ρ w h => ?_)
  unfold f34_b1 at h
  refine C_blk ?_
  refine wp_seq ?_
  refine L_region ?_
  refine L_mv ?_
  refine L_u (P_su h) ?_
  intro v w h
  refine L_u (P_qu h) ?_
  intro v w h
  refine L_as ?_
  refine L_nil ?_
  refine E_n ?_
  refine wp_seq ?_
  refine wp_seq ?_
  refine L_region ?_
  refine L_mv ?_
  refine L_mv ?_
  refine L_u (P_eqi h) ?_
  intro v w h
  refine L_mv ?_
  refine L_g (t := 11) h rfl rfl (fun c h => P_mv h c) ?_
  intro v w h
  refine L_g (t := 11) h rfl rfl (fun c h => P_mv h c) ?_
  intro v w h
  refine L_g (t := 11) h rfl rfl (fun c h => P_mv h c) ?_
  intro v w h
  refine L_g (t := 11) h rfl rfl (fun c h => N_ci h c) ?_
  intro v w h
  refine L_g (t := 11) h rfl rfl (fun c h => P_nt h c) ?_
  intro v w h
  refine L_u (P_pk h) ?_
  intro v w h
  refine L_nil ?_
  refine E_n ?_
  refine C_cnd h (fun h => ?_) (fun h => ?_)
  · refine C_exit ?_
    refine E_x ?_
    refine B_o rfl ?_
    refine E_x ?_
    refine B_x ?_
    show bodyPost Try.prog Try.f34 (Rt Q) .normal _ _
    exact post_tmps (ts := []) (.inl rfl) rfl h
  · refine C_skip ?_
    refine E_n ?_
    refine wp_seq ?_
    refine L_region ?_
    refine L_mv ?_
    refine L_mv ?_
    refine L_mv ?_
    refine L_u (N_ci h) ?_
    intro v w h
    refine L_nil ?_
    refine E_n ?_
    refine L_region ?_
    refine L_mv ?_
    refine L_as ?_
    refine L_nil ?_
    refine B_n ?_
    refine E_n ?_
    exact L1 _ _ h

def f31 (t0 t1 : Value) : M := ci Try.prog t0 "Len" #[] fun t7 => cl (f33 t0 t1 t7) fun t8 => nt t8 fun t9 => cnd t9 ( cl (f34 t0 t1) fun t12 => rt (.tuple #[]) ) ( rt (.tuple #[]) )
theorem s31 (t0 t1 : Value) (w : World) (Q : Value → World → Prop) (h : f31 t0 t1 w Q) : Calls Try.prog 31 #[t0, t1] w (Rt Q) := by
  refine calls_of (l := [t0, t1]) Try.func31 rfl Try.ntmps31 (Nat.le_of_ble_eq_true rfl) ?_
  unfold f31 at h
  refine wp_seq ?_
  refine L_region ?_
  refine L_mv ?_
  refine L_mv ?_
  refine L_mv ?_
  refine L_u (N_ci h) ?_
  intro v w h
  refine L_u (N_cl Try.func33 rfl nn33 (fun w Q h => s33 _ _ _ w Q h) h) ?_
  intro v w h
  refine L_u (P_nt h) ?_
  intro v w h
  refine L_nil ?_
  refine E_n ?_
  refine C_cnd h (fun h => ?_) (fun h => ?_)
  · refine L_region ?_
    refine L_mv ?_
    refine L_mv ?_
    refine L_u (N_cl Try.func34 rfl nn34 (fun w Q h => s34 _ _ w Q h) h) ?_
    intro v w h
    refine L_nil ?_
    show bodyPost Try.prog Try.f31 (Rt Q) .normal _ _
    exact post_tmps (ts := []) (.inl rfl) rfl h
  · refine C_skip ?_
    show bodyPost Try.prog Try.f31 (Rt Q) .normal _ _
    exact post_tmps (ts := []) (.inl rfl) rfl h

def f19_j3 (self2 : Value → Value → Value → Value → Value → Value → M) (t1_2 t2_2 t7_1 t18_1 t19_2 t20_1 : Value) : M := ad .i64 t20_1 (.int .i64 1) fun t38 => self2 t1_2 t2_2 t7_1 t18_1 t19_2 t38
def f19_b2 (j1 : Value → Value → M) (self2 : Value → Value → Value → Value → Value → Value → M) (t1_1 t2_1 t7 t18 t19_1 t20 : Value) : M := lt .i64 t20 t19_1 fun t21 => cnd t21 ( ia 2 t18 t20 fun t22 => ldn 2 t22 fun t23 => al 27 #[(.int .i64 0), (.int .i64 0)] fun t9 => stn 2 t9 t23 <| ldn 2 t9 fun t24 => cl (f11 t24) fun t25 => jn (fun (j3 : Value → Value → Value → Value → Value → Value → M) => cnd t25 ( dr <| idv t7 fun t26 => idv t7 fun t27 => nc t27 fun t28 => ld t28 fun t29 => ldn 2 t9 fun t30 => ldn 2 t9 fun t31 => idv t1_1 fun t32 => cl (f23 t31 t32) fun t33 => kp (Kldn 2 t9 t30) <| kp (Kld t28 t29) <| smr Try.prog (Instr.build 58 #[(0, t30), (1, t33)]) fun t34 => sm Try.prog (Instr.buildSlice 56 1 #[(0, t34)]) fun t35 => kp (Kld t28 t29) <| sm Try.prog (Builtin.append_ #[56, 56] 56 #[t29, t35]) fun t36 => nc t26 fun t37 => st t37 t36 <| j3 t1_1 t2_1 t7 t18 t19_1 t20 ) ( j3 t1_1 t2_1 t7 t18 t19_1 t20 ) ) (f19_j3 self2) ) ( j1 t2_1 t7 )
def f19_j6 (self5 : Value → Value → Value → M) (t2_5 t7_4 t10_1 t11 : Value) : M := dr <| idv t11 fun t81 => nc t81 fun t82 => fa 2 t82 fun t83 => ld t83 fun t84 => idv t11 fun t85 => nc t85 fun t86 => fa 0 t86 fun t87 => fa 0 t87 fun t88 => ld t88 fun t89 => ad .i64 t84 t89 fun t90 => nc t81 fun t91 => fa 2 t91 fun t92 => st t92 t90 <| mif 54 t7_4 fun t94 => cl (f31 t94 (.int .i64 0)) fun t95 => self5 t2_5 t7_4 t10_1
def f19_b5 (j4 : Value → M) (self5 : Value → Value → Value → M) (t2_4 t7_3 t10 : Value) : M := nc t7_3 fun t43 => ld t43 fun t44 => cl (f30 t44) fun t45 => gt .i64 t45 (.int .i64 0) fun t46 => gd t46 true (idv t10) fun t48 => gd t46 true (lnl t48) fun t49 => gd t46 true (idv t2_4) fun t50 => gd t46 true (mnm t50 (.int .i64 1000)) fun t51 => gd t46 true (lt .i64 t49 t51) fun t52 => pk t46 t52 (.bool false) fun t53 => cnd t53 ( nc t7_3 fun t55 => ld t55 fun t56 => ia 3 t56 (.int .i64 0) fun t57 => lnl t10 fun t59 => dr <| idv t59 fun t60 => eqi .i64 t60 (.int .i64 0) fun t61 => idv t61 fun t62 => gd t62 false (idv t10) fun t63 => gd t62 false (idv t59) fun t64 => gd t62 false (su .i64 t64 (.int .i64 1)) fun t65 => gd t62 false (ia 1 t63 t65) fun t66 => gd t62 false (ld t66) fun t67 => gd t62 false (idv t57) fun t68 => gd t62 false (nc t68) fun t69 => gd t62 false (fa 2 t69) fun t70 => gd t62 false (ld t70) fun t71 => gd t62 false (nei .i64 t67 t71) fun t72 => pk t62 (.bool true) t72 fun t73 => jn (fun (j6 : Value → Value → Value → Value → M) => cnd t73 ( nc t57 fun t76 => fa 2 t76 fun t77 => ld t77 fun t78 => sm Try.prog (Instr.buildSlice 44 1 #[(0, t78)]) fun t79 => sm Try.prog (Builtin.append_ #[44, 44] 44 #[t10, t79]) fun t80 => j6 t2_4 t7_3 t80 t57 ) ( j6 t2_4 t7_3 t10 t57 ) ) (f19_j6 self5) ) ( j4 t10 )
def f19_j4 (t10_2 : Value) : M := rt t10_2
def f19_j1 (t2_3 t7_2 : Value) : M := mif 54 t7_2 fun t40 => cl (f29 t40) fun t41 => jn (fun (j4 : Value → M) => lo (fun _ _ _ => bot) (f19_b5 j4) (fun l => l t2_3 t7_2 (.slice none 0 0)) ) (f19_j4)
def f19 (t0 t1 t2 : Value) : M := cl (f22 t1) fun t14 => nt t14 fun t15 => cnd t15 ( rt (.slice none 0 0) ) ( sm Try.prog (Instr.buildSlice 56 0 #[]) fun t16 => bx 56 t16 fun t17 => lnl t0 fun t19 => jn (fun (j1 : Value → Value → M) => lo (fun _ _ _ _ _ _ => bot) (f19_b2 j1) (fun l => l t1 t2 t17 t0 t19 (.int .i64 0)) ) (f19_j1) )
theorem s19 (t0 t1 t2 : Value) (w : World) (Q : Value → World → Prop) (h : f19 t0 t1 t2 w Q) : Calls Try.prog 19 #[t0, t1, t2] w (Rt Q) := by
  refine calls_of (l := [t0, t1, t2]) Try.func19 rfl Try.ntmps19 (Nat.le_of_ble_eq_true rfl) ?_
  unfold f19 at h
  refine wp_seq ?_
  refine L_region ?_
  refine L_as ?_
  refine L_nil ?_
  refine E_n ?_
  refine wp_seq ?_
  refine wp_seq ?_
  refine L_region ?_
  refine L_mv ?_
  refine L_u (N_cl Try.func22 rfl nn22 (fun w Q h => s22 _ w Q h) h) ?_
  intro v w h
  refine L_u (P_nt h) ?_
  intro v w h
  refine L_nil ?_
  refine E_n ?_
  refine C_cnd h (fun h => ?_) (fun h => ?_)
  · refine wp_seq ?_
    refine L_region ?_
    refine L_as ?_
    refine L_nil ?_
    refine E_n ?_
    refine C_ret ?_
    show bodyPost Try.prog Try.f19 (Rt Q) .ret _ _
    exact post_tmps (ts := [6]) (.inr rfl) rfl h
  · refine C_skip ?_
    refine E_n ?_
    refine wp_seq ?_
    refine L_region ?_
    refine L_u (N_bsl h) ?_
    intro v w h
    refine L_u (P_bx h) ?_
    intro v w h
    refine L_as ?_
    refine L_nil ?_
    refine E_n ?_
    refine wp_seq ?_
    refine wp_seq ?_
    refine L_region ?_
    refine L_mv ?_
    refine L_u (P_lnl is46 h) ?_
    intro v w h
    refine L_mv ?_
    refine L_nil ?_
    refine E_n ?_
    refine C_join (fun (k : Value → Value → M) (ρ : Nat → Value) => k (ρ 2) (ρ 7)) h (fun j1 J1 h => ?_) (fun ρ w h => ?_)
    · refine C_blk ?_
      refine C_lo (fun (l : Value → Value → Value → Value → Value → Value → M) (ρ : Nat → Value) => l (ρ 1) (ρ 2) (ρ 7) (ρ 18) (ρ 19) (ρ 20)) h (fun ρ w h => h) (fun nx self2 L2 ρ w h => ?_)
      unfold f19_b2 at h
      refine wp_seq ?_
      refine L_region ?_
      refine L_u (P_lt h) ?_
      intro v w h
      refine L_nil ?_
      refine E_n ?_
      refine wp_seq ?_
      refine C_cnd h (fun h => ?_) (fun h => ?_)
      · refine C_skip ?_
        refine E_n ?_
        refine wp_seq ?_
        refine C_blk ?_
        refine wp_seq ?_
        refine L_region ?_
        refine L_u (P_ia se46 h) ?_
        intro v w h
        refine L_u (P_ldn ag27 h) ?_
        intro v w h
        refine L_u (P_al ze27 rfl h) ?_
        intro v w h
        refine L_u (P_stn ag27 h) ?_
        intro w h
        refine L_nil ?_
        refine E_n ?_
        refine wp_seq ?_
        refine L_region ?_
        refine L_u (P_ldn ag27 h) ?_
        intro v w h
        refine L_u (N_cl Try.func11 rfl nn11 (fun w Q h => s11 _ w Q h) h) ?_
        intro v w h
        refine L_nil ?_
        refine E_n ?_
        refine C_join (fun (k : Value → Value → Value → Value → Value → Value → M) (ρ : Nat → Value) => k (ρ 1) (ρ 2) (ρ 7) (ρ 18) (ρ 19) (ρ 20)) h (fun j3 J3 h => ?_) (fun ρ w h => ?_)
        · refine C_cnd h (fun h => ?_) (fun h => ?_)
          · refine D_region (by decide +kernel) 13 rfl ?_
            replace h := dr_e h
            refine G_p 0 rfl (by decide +kernel) (Y_mv h) ?_
            intro v h
            refine G_p 1 rfl (by decide +kernel) (Y_mv h) ?_
            intro v h
            refine G_p 2 rfl (by decide +kernel) (Y_nc h) ?_
            intro v h
            refine G_r _ 3 rfl (by decide +kernel) (R_ld sc56 h) ?_
            intro v h
            refine G_r _ 4 rfl (by decide +kernel) (R_ldn ag27 h) ?_
            intro v h
            refine G_r _ 5 rfl (by decide +kernel) (R_ldn ag27 h) ?_
            intro v h
            refine G_p 6 rfl (by decide +kernel) (Y_mv h) ?_
            intro v h
            refine G_e 7 rfl (by decide +kernel) (N_cl Try.func23 rfl nn23 (fun w Q h => s23 _ _ w Q h) h ?_)
            intro v w h
            refine ⟨keepF_dep [5] (by decide +kernel) rfl (keepF_cons (kp_1 h) (keepF_cons (kp_1 (kp_2 h)) keepF_nil)), ?_⟩
            replace h := (kp_2 (kp_2 h))
            refine G_r _ 8 rfl (by decide +kernel) (R_bld h) ?_
            intro v h
            refine G_e 9 rfl (by decide +kernel) (N_bsl h ?_)
            intro v w h
            refine ⟨keepF_dep [8] (by decide +kernel) rfl (keepF_dep [8, 7, 5] (by decide +kernel) rfl (keepF_dep [8, 4] (by decide +kernel) rfl (keepF_cons (kp_1 h) keepF_nil))), ?_⟩
            replace h := (kp_2 h)
            refine G_e 10 rfl (by decide +kernel) (N_bi rfl h ?_)
            intro v w h
            refine ⟨keepF_dep [9, 8] (by decide +kernel) rfl (keepF_dep [7, 5] (by decide +kernel) rfl (keepF_dep [9, 8, 4] (by decide +kernel) rfl (keepF_dep [3] (by decide +kernel) rfl keepF_nil))), ?_⟩
            refine G_p 11 rfl (by decide +kernel) (Y_nc h) ?_
            intro v h
            refine G_e 12 rfl (by decide +kernel) (P_st on56 h ?_)
            intro w h
            refine ⟨keepF_dep [8] (by decide +kernel) rfl (keepF_dep [5] (by decide +kernel) rfl (keepF_dep [4] (by decide +kernel) rfl (keepF_dep [3] (by decide +kernel) rfl keepF_nil))), ?_⟩
            refine G_done (by decide +kernel) ?_
            exact J3 _ _ h
          · refine C_skip ?_
            exact J3 _ _ h
        · unfold f19_j3 at h
          refine B_n ?_
          refine E_n ?_
          refine L_region ?_
          refine L_u (P_ad h) ?_
          intro v w h
          refine L_mv ?_
          refine L_nil ?_
          refine E_n ?_
          exact L2 _ _ h
      · refine C_exit ?_
        refine E_x ?_
        refine E_x ?_
        refine B_x ?_
        exact J1 _ _ h
    · unfold f19_j1 at h
      refine E_n ?_
      refine wp_seq ?_
      refine L_region ?_
      refine L_mv ?_
      refine L_u (P_mif co54 h) ?_
      intro v w h
      refine L_u (N_cl Try.func29 rfl nn29 (fun w Q h => s29 _ w Q h) h) ?_
      intro v w h
      refine L_nil ?_
      refine E_n ?_
      refine wp_seq ?_
      refine L_region ?_
      refine L_as ?_
      refine L_nil ?_
      refine E_n ?_
      refine wp_seq ?_
      refine C_join (fun (k : Value → M) (ρ : Nat → Value) => k (ρ 10)) h (fun j4 J4 h => ?_) (fun ρ w h => ?_)
      · refine C_blk ?_
        refine C_lo (fun (l : Value → Value → Value → M) (ρ : Nat → Value) => l (ρ 2) (ρ 7) (ρ 10)) h (fun ρ w h => h) (fun nx self5 L5 ρ w h => ?_)
        unfold f19_b5 at h
        refine wp_seq ?_
        refine wp_seq ?_
        refine L_region ?_
        refine L_mv ?_
        refine L_u (P_nc h) ?_
        intro v w h
        refine L_u (P_ld sc56 h) ?_
        intro v w h
        refine L_u (N_cl Try.func30 rfl nn30 (fun w Q h => s30 _ w Q h) h) ?_
        intro v w h
        refine L_u (P_gt h) ?_
        intro v w h
        refine L_mv ?_
        refine L_g (t := 47) h rfl rfl (fun c h => P_mv h c) ?_
        intro v w h
        refine L_g (t := 47) h rfl rfl (fun c h => P_lnl is44 h c) ?_
        intro v w h
        refine L_g (t := 47) h rfl rfl (fun c h => P_mv h c) ?_
        intro v w h
        refine L_g (t := 47) h rfl rfl (fun c h => P_mnm (t := 0) h c) ?_
        intro v w h
        refine L_g (t := 47) h rfl rfl (fun c h => P_lt h c) ?_
        intro v w h
        refine L_u (P_pk h) ?_
        intro v w h
        refine L_nil ?_
        refine E_n ?_
        refine C_cnd h (fun h => ?_) (fun h => ?_)
        · refine C_skip ?_
          refine E_n ?_
          refine C_blk ?_
          refine wp_seq ?_
          refine L_region ?_
          refine L_mv ?_
          refine L_u (P_nc h) ?_
          intro v w h
          refine L_u (P_ld sc56 h) ?_
          intro v w h
          refine L_u (P_ia se56 h) ?_
          intro v w h
          refine L_as ?_
          refine L_nil ?_
          refine E_n ?_
          refine wp_seq ?_
          refine wp_seq ?_
          refine L_region ?_
          refine L_mv ?_
          refine L_u (P_lnl is44 h) ?_
          intro v w h
          refine L_as ?_
          refine L_nil ?_
          refine E_n ?_
          refine wp_seq ?_
          refine D_region (by decide +kernel) 14 rfl ?_
          replace h := dr_e h
          refine G_p 0 rfl (by decide +kernel) (Y_mv h) ?_
          intro v h
          refine G_p 1 rfl (by decide +kernel) (Y_eqi h) ?_
          intro v h
          refine G_p 2 rfl (by decide +kernel) (Y_mv h) ?_
          intro v h
          refine G_pg (t := 62) 3 rfl (by decide +kernel) h rfl rfl (fun h => Y_mv h) ?_
          intro v h
          refine G_pg (t := 62) 4 rfl (by decide +kernel) h rfl rfl (fun h => Y_mv h) ?_
          intro v h
          refine G_pg (t := 62) 5 rfl (by decide +kernel) h rfl rfl (fun h => Y_su h) ?_
          intro v h
          refine G_pg (t := 62) 6 rfl (by decide +kernel) h rfl rfl (fun h => Y_ia se44 h) ?_
          intro v h
          refine G_rg (t := 62) _ 7 rfl (by decide +kernel) h rfl rfl (fun h => R_ld sc2 h) ?_
          intro v h
          refine G_pg (t := 62) 8 rfl (by decide +kernel) h rfl rfl (fun h => Y_mv h) ?_
          intro v h
          refine G_pg (t := 62) 9 rfl (by decide +kernel) h rfl rfl (fun h => Y_nc h) ?_
          intro v h
          refine G_pg (t := 62) 10 rfl (by decide +kernel) h rfl rfl (fun h => Y_fa fo58_1 h) ?_
          intro v h
          refine G_rg (t := 62) _ 11 rfl (by decide +kernel) h rfl rfl (fun h => R_ld sc2 h) ?_
          intro v h
          refine G_pg (t := 62) 12 rfl (by decide +kernel) h rfl rfl (fun h => Y_nei h) ?_
          intro v h
          refine G_p 13 rfl (by decide +kernel) (Y_pk h) ?_
          intro v h
          refine G_done (by decide +kernel) ?_
          refine E_n ?_
          refine C_join (fun (k : Value → Value → Value → Value → M) (ρ : Nat → Value) => k (ρ 2) (ρ 7) (ρ 10) (ρ 11)) h (fun j6 J6 h => ?_) (fun ρ w h => ?_)
          · refine C_cnd h (fun h => ?_) (fun h => ?_)
            · refine L_region ?_
              refine L_mv ?_
              refine L_mv ?_
              refine L_u (P_nc h) ?_
              intro v w h
              refine L_u (P_fa fo58_1 h) ?_
              intro v w h
              refine L_u (P_ld sc2 h) ?_
              intro v w h
              refine L_u (N_bsl h) ?_
              intro v w h
              refine L_u (N_bi rfl h) ?_
              intro v w h
              refine L_as ?_
              refine L_nil ?_
              exact J6 _ _ h
            · refine C_skip ?_
              exact J6 _ _ h
          · unfold f19_j6 at h
            refine E_n ?_
            refine wp_seq ?_
            refine D_region (by decide +kernel) 13 rfl ?_
            replace h := dr_e h
            refine G_p 0 rfl (by decide +kernel) (Y_mv h) ?_
            intro v h
            refine G_p 1 rfl (by decide +kernel) (Y_nc h) ?_
            intro v h
            refine G_p 2 rfl (by decide +kernel) (Y_fa fo58_1 h) ?_
            intro v h
            refine G_r _ 3 rfl (by decide +kernel) (R_ld sc2 h) ?_
            intro v h
            refine G_p 4 rfl (by decide +kernel) (Y_mv h) ?_
            intro v h
            refine G_p 5 rfl (by decide +kernel) (Y_nc h) ?_
            intro v h
            refine G_p 6 rfl (by decide +kernel) (Y_fa fo58_0 h) ?_
            intro v h
            refine G_p 7 rfl (by decide +kernel) (Y_fa fo27_0 h) ?_
            intro v h
            refine G_r _ 8 rfl (by decide +kernel) (R_ld sc2 h) ?_
            intro v h
            refine G_p 9 rfl (by decide +kernel) (Y_ad h) ?_
            intro v h
            refine G_p 10 rfl (by decide +kernel) (Y_nc h) ?_
            intro v h
            refine G_p 11 rfl (by decide +kernel) (Y_fa fo58_1 h) ?_
            intro v h
            refine G_e 12 rfl (by decide +kernel) (P_st on2 h ?_)
            intro w h
            refine ⟨keepF_dep [8] (by decide +kernel) rfl (keepF_dep [3] (by decide +kernel) rfl keepF_nil), ?_⟩
            refine G_done (by decide +kernel) ?_
            refine E_n ?_
            refine L_region ?_
            refine L_mv ?_
            refine L_u (P_mif co54 h) ?_
            intro v w h
            refine L_u (N_cl Try.func31 rfl nn31 (fun w Q h => s31 _ _ w Q h) h) ?_
            intro v w h
            refine L_nil ?_
            refine B_n ?_
            refine E_n ?_
            exact L5 _ _ h
        · refine C_exit ?_
          refine E_x ?_
          refine E_x ?_
          refine B_x ?_
          exact J4 _ _ h
      · unfold f19_j4 at h
        refine E_n ?_
        refine wp_seq ?_
        refine L_region ?_
        refine L_mv ?_
        refine L_as ?_
        refine L_nil ?_
        refine E_n ?_
        refine C_ret ?_
        show bodyPost Try.prog Try.f19 (Rt Q) .ret _ _
        exact post_tmps (ts := [6]) (.inr rfl) rfl h

def f20_b2 (j1 : Value → M) (self2 : Value → Value → Value → M) (t0_1 t3 t4 : Value) : M := lnl t0_1 fun t7 => lt .i64 t4 t7 fun t8 => gd t8 true (idv t4) fun t10 => gd t8 true (lt .i64 t10 (.int .i64 20)) fun t11 => pk t8 t11 (.bool false) fun t12 => cnd t12 ( ia 2 t0_1 t4 fun t18 => ldn 2 t18 fun t19 => cl (f9 t19) fun t20 => sm Try.prog (Instr.buildSlice 46 1 #[(0, t20)]) fun t21 => sm Try.prog (Builtin.append_ #[46, 46] 46 #[t3, t21]) fun t22 => ad .i64 t4 (.int .i64 1) fun t14 => self2 t0_1 t22 t14 ) ( j1 t3 )
def f20_j1 (t3_1 : Value) : M := rt t3_1
def f20 (t0 : Value) : M := jn (fun (j1 : Value → M) => lo (fun _ _ _ => bot) (f20_b2 j1) (fun l => l t0 (.slice none 0 0) (.int .i64 0)) ) (f20_j1)
theorem s20 (t0 : Value) (w : World) (Q : Value → World → Prop) (h : f20 t0 w Q) : Calls Try.prog 20 #[t0] w (Rt Q) := by
  refine calls_of (l := [t0]) Try.func20 rfl Try.ntmps20 (Nat.le_of_ble_eq_true rfl) ?_
  unfold f20 at h
  refine wp_seq ?_
  refine L_region ?_
  refine L_as ?_
  refine L_nil ?_
  refine E_n ?_
  refine wp_seq ?_
  refine L_region ?_
  refine L_as ?_
  refine L_nil ?_
  refine E_n ?_
  refine wp_seq ?_
  refine wp_seq ?_
  refine L_region ?_
  refine L_as ?_
  refine L_nil ?_
  refine E_n ?_
  refine C_join (fun (k : Value → M) (ρ : Nat → Value) => k (ρ 3)) h (fun j1 J1 h => ?_) (fun ρ w h => ?_)
  · refine C_blk ?_
    refine C_lo (fun (l : Value → Value → Value → M) (ρ : Nat → Value) => l (ρ 0) (ρ 3) (ρ 4)) h (fun ρ w h => h) (fun nx self2 L2 ρ w h => ?_)
    unfold f20_b2 at h
    refine wp_seq ?_
    refine wp_seq ?_
    refine L_region ?_
    refine L_mv ?_
    refine L_mv ?_
    refine L_u (P_lnl is43 h) ?_
    intro v w h
    refine L_u (P_lt h) ?_
    intro v w h
    refine L_mv ?_
    refine L_g (t := 9) h rfl rfl (fun c h => P_mv h c) ?_
    intro v w h
    refine L_g (t := 9) h rfl rfl (fun c h => P_lt h c) ?_
    intro v w h
    refine L_u (P_pk h) ?_
    intro v w h
    refine L_nil ?_
    refine E_n ?_
    refine C_cnd h (fun h => ?_) (fun h => ?_)
    · refine C_skip ?_
      refine E_n ?_
      refine wp_seq ?_
      refine C_blk ?_
      refine L_region ?_
      refine L_mv ?_
      refine L_mv ?_
      refine L_mv ?_
      refine L_u (P_ia se43 h) ?_
      intro v w h
      refine L_u (P_ldn ag23 h) ?_
      intro v w h
      refine L_u (N_cl Try.func9 rfl nn9 (fun w Q h => s9 _ w Q h) h) ?_
      intro v w h
      refine L_u (N_bsl h) ?_
      intro v w h
      refine L_u (N_bi rfl h) ?_
      intro v w h
      refine L_as ?_
      refine L_nil ?_
      refine B_n ?_
      refine E_n ?_
      refine L_region ?_
      refine L_mv ?_
      refine L_u (P_ad h) ?_
      intro v w h
      refine L_as ?_
      refine L_nil ?_
      refine E_n ?_
      exact L2 _ _ h
    · refine C_exit ?_
      refine E_x ?_
      refine E_x ?_
      refine B_x ?_
      exact J1 _ _ h
  · unfold f20_j1 at h
    refine E_n ?_
    refine wp_seq ?_
    refine L_region ?_
    refine L_mv ?_
    refine L_as ?_
    refine L_nil ?_
    refine E_n ?_
    refine C_ret ?_
    show bodyPost Try.prog Try.f20 (Rt Q) .ret _ _
    exact post_tmps (ts := [2]) (.inr rfl) rfl h

def f21_b7 (j6 : Value → Value → Value → Value → Value → Value → Value → Value → M) (self7 : Value → Value → Value → Value → Value → Value → Value → Value → M) (t0_3 t2_3 t7_2 t8_2 t9_1 t10_1 t11_1 t12_1 : Value) : M := le .i64 t12_1 t8_2 fun t52 => cnd t52 ( ia 2 t0_3 t11_1 fun t56 => fa 0 t56 fun t57 => ld t57 fun t58 => ad .i64 t12_1 t58 fun t59 => self7 t0_3 t2_3 t7_2 t8_2 t9_1 t10_1 t11_1 t59 ) ( j6 t0_3 t2_3 t7_2 t8_2 t9_1 t10_1 t11_1 t12_1 )
def f21_j6 (j5 : Value → Value → Value → Value → Value → Value → Value → M) (t0_4 t2_4 t7_3 t8_3 t9_2 t10_2 t11_2 t12_2 : Value) : M := nt t10_2 fun t61 => gd t61 false (idv t12_2) fun t63 => gd t61 false (idv t9_2) fun t64 => gd t61 false (lt .i64 t63 t64) fun t65 => pk t61 (.bool true) t65 fun t66 => cnd t66 ( j5 t0_4 t2_4 t7_3 t8_3 t12_2 (.bool true) t11_2 ) ( j5 t0_4 t2_4 t7_3 t8_3 t9_2 t10_2 t11_2 )
def f21_j5 (self4 : Value → Value → Value → Value → Value → Value → Value → M) (t0_5 t2_5 t7_4 t8_4 t9_3 t10_3 t11_3 : Value) : M := ad .i64 t11_3 (.int .i64 1) fun t28 => self4 t0_5 t2_5 t7_4 t8_4 t9_3 t10_3 t28
def f21_b4 (j3 : Value → Value → Value → Value → Value → M) (self4 : Value → Value → Value → Value → Value → Value → Value → M) (t0_2 t2_2 t7_1 t8_1 t9 t10 t11 : Value) : M := lnl t0_2 fun t25 => lt .i64 t11 t25 fun t26 => cnd t26 ( jn (fun (j5 : Value → Value → Value → Value → Value → Value → Value → M) => ia 2 t0_2 t11 fun t31 => ldn 2 t31 fun t32 => cl (f12 t32) fun t33 => nt t33 fun t34 => cnd t34 ( j5 t0_2 t2_2 t7_1 t8_1 t9 t10 t11 ) ( dr <| idv t8_1 fun t35 => idv t8_1 fun t36 => idv t0_2 fun t37 => idv t11 fun t38 => ia 2 t37 t38 fun t39 => fa 1 t39 fun t40 => ld t40 fun t41 => su .i64 t36 t41 fun t42 => idv t0_2 fun t43 => idv t11 fun t44 => ia 2 t43 t44 fun t45 => fa 0 t45 fun t46 => ld t46 fun t47 => re .i64 t42 t47 fun t48 => su .i64 t35 t48 fun t49 => idv t49 fun t12 => jn (fun (j6 : Value → Value → Value → Value → Value → Value → Value → Value → M) => lo (fun _ _ _ _ _ _ _ _ => bot) (f21_b7 j6) (fun l => l t0_2 t2_2 t7_1 t8_1 t9 t10 t11 t12) ) (f21_j6 j5) ) ) (f21_j5 self4) ) ( j3 t0_2 t2_2 t7_1 t9 t10 )
def f21_j3 (j1 : Value → M) (self2 : Value → Value → Value → Value → M) (t0_6 t2_6 t7_5 t9_4 t10_4 : Value) : M := nt t10_4 fun t69 => cnd t69 ( j1 t7_5 ) ( sm Try.prog (Instr.buildSlice 44 1 #[(0, t9_4)]) fun t72 => sm Try.prog (Builtin.append_ #[44, 44] 44 #[t7_5, t72]) fun t73 => self2 t0_6 t2_6 t73 t9_4 )
def f21_b2 (j1 : Value → M) (self2 : Value → Value → Value → Value → M) (t0_1 t2_1 t7 t8 : Value) : M := lnl t7 fun t19 => mnm t2_1 (.int .i64 1000) fun t21 => lt .i64 t19 t21 fun t22 => cnd t22 ( jn (fun (j3 : Value → Value → Value → Value → Value → M) => lo (fun _ _ _ _ _ _ _ => bot) (f21_b4 j3) (fun l => l t0_1 t2_1 t7 t8 (.int .i64 0) (.bool false) (.int .i64 0)) ) (f21_j3 j1 self2) ) ( j1 t7 )
def f21_j1 (t7_6 : Value) : M := rt t7_6
def f21 (t0 t1 t2 : Value) : M := cl (f24 t1) fun t14 => nt t14 fun t15 => cnd t15 ( rt (.slice none 0 0) ) ( su .i64 t1 (.int .i64 1) fun t17 => jn (fun (j1 : Value → M) => lo (fun _ _ _ _ => bot) (f21_b2 j1) (fun l => l t0 t2 (.slice none 0 0) t17) ) (f21_j1) )
theorem s21 (t0 t1 t2 : Value) (w : World) (Q : Value → World → Prop) (h : f21 t0 t1 t2 w Q) : Calls Try.prog 21 #[t0, t1, t2] w (Rt Q) := by
  refine calls_of (l := [t0, t1, t2]) Try.func21 rfl Try.ntmps21 (Nat.le_of_ble_eq_true rfl) ?_
  unfold f21 at h
  refine wp_seq ?_
  refine L_region ?_
  refine L_as ?_
  refine L_nil ?_
  refine E_n ?_
  refine wp_seq ?_
  refine L_region ?_
  refine L_as ?_
  refine L_nil ?_
  refine E_n ?_
  refine wp_seq ?_
  refine wp_seq ?_
  refine L_region ?_
  refine L_mv ?_
  refine L_u (N_cl Try.func24 rfl nn24 (fun w Q h => s24 _ w Q h) h) ?_
  intro v w h
  refine L_u (P_nt h) ?_
  intro v w h
  refine L_nil ?_
  refine E_n ?_
  refine C_cnd h (fun h => ?_) (fun h => ?_)
  · refine wp_seq ?_
    refine L_region ?_
    refine L_as ?_
    refine L_nil ?_
    refine E_n ?_
    refine C_ret ?_
    show bodyPost Try.prog Try.f21 (Rt Q) .ret _ _
    exact post_tmps (ts := [6]) (.inr rfl) rfl h
  · refine C_skip ?_
    refine E_n ?_
    refine wp_seq ?_
    refine L_region ?_
    refine L_mv ?_
    refine L_u (P_su h) ?_
    intro v w h
    refine L_as ?_
    refine L_nil ?_
    refine E_n ?_
    refine wp_seq ?_
    refine C_join (fun (k : Value → M) (ρ : Nat → Value) => k (ρ 7)) h (fun j1 J1 h => ?_) (fun ρ w h => ?_)
    · refine C_blk ?_
      refine C_lo (fun (l : Value → Value → Value → Value → M) (ρ : Nat → Value) => l (ρ 0) (ρ 2) (ρ 7) (ρ 8)) h (fun ρ w h => h) (fun nx self2 L2 ρ w h => ?_)
      unfold f21_b2 at h
      refine wp_seq ?_
      refine wp_seq ?_
      refine L_region ?_
      refine L_mv ?_
      refine L_u (P_lnl is44 h) ?_
      intro v w h
      refine L_mv ?_
      refine L_u (P_mnm (t := 0) h) ?_
      intro v w h
      refine L_u (P_lt h) ?_
      intro v w h
      refine L_nil ?_
      refine E_n ?_
      refine C_cnd h (fun h => ?_) (fun h => ?_)
      · refine C_skip ?_
        refine E_n ?_
        refine C_blk ?_
        refine wp_seq ?_
        refine L_region ?_
        refine L_as ?_
        refine L_nil ?_
        refine E_n ?_
        refine wp_seq ?_
        refine L_region ?_
        refine L_as ?_
        refine L_nil ?_
        refine E_n ?_
        refine wp_seq ?_
        refine wp_seq ?_
        refine L_region ?_
        refine L_as ?_
        refine L_nil ?_
        refine E_n ?_
        refine C_join (fun (k : Value → Value → Value → Value → Value → M) (ρ : Nat → Value) => k (ρ 0) (ρ 2) (ρ 7) (ρ 9) (ρ 10)) h (fun j3 J3 h => ?_) (fun ρ w h => ?_)
        · refine C_blk ?_
          refine C_lo (fun (l : Value → Value → Value → Value → Value → Value → Value → M) (ρ : Nat → Value) => l (ρ 0) (ρ 2) (ρ 7) (ρ 8) (ρ 9) (ρ 10) (ρ 11)) h (fun ρ w h => h) (fun nx self4 L4 ρ w h => ?_)
          unfold f21_b4 at h
          refine wp_seq ?_
          refine wp_seq ?_
          refine L_region ?_
          refine L_mv ?_
          refine L_mv ?_
          refine L_u (P_lnl is43 h) ?_
          intro v w h
          refine L_u (P_lt h) ?_
          intro v w h
          refine L_nil ?_
          refine E_n ?_
          refine C_cnd h (fun h => ?_) (fun h => ?_)
          · refine C_skip ?_
            refine E_n ?_
            refine wp_seq ?_
            refine C_join (fun (k : Value → Value → Value → Value → Value → Value → Value → M) (ρ : Nat → Value) => k (ρ 0) (ρ 2) (ρ 7) (ρ 8) (ρ 9) (ρ 10) (ρ 11)) h (fun j5 J5 h => ?_) (fun ρ w h => ?_)
            · refine C_blk ?_
              refine wp_seq ?_
              refine wp_seq ?_
              refine L_region ?_
              refine L_mv ?_
              refine L_mv ?_
              refine L_u (P_ia se43 h) ?_
              intro v w h
              refine L_u (P_ldn ag23 h) ?_
              intro v w h
              refine L_u (N_cl Try.func12 rfl nn12 (fun w Q h => s12 _ w Q h) h) ?_
              intro v w h
              refine L_u (P_nt h) ?_
              intro v w h
              refine L_nil ?_
              refine E_n ?_
              refine C_cnd h (fun h => ?_) (fun h => ?_)
              · refine C_exit ?_
                refine E_x ?_
                refine B_x ?_
                exact J5 _ _ h
              · refine C_skip ?_
                refine E_n ?_
                refine wp_seq ?_
                refine D_region (by decide +kernel) 16 rfl ?_
                replace h := dr_e h
                refine G_p 0 rfl (by decide +kernel) (Y_mv h) ?_
                intro v h
                refine G_p 1 rfl (by decide +kernel) (Y_mv h) ?_
                intro v h
                refine G_p 2 rfl (by decide +kernel) (Y_mv h) ?_
                intro v h
                refine G_p 3 rfl (by decide +kernel) (Y_mv h) ?_
                intro v h
                refine G_p 4 rfl (by decide +kernel) (Y_ia se43 h) ?_
                intro v h
                refine G_p 5 rfl (by decide +kernel) (Y_fa fo23_1 h) ?_
                intro v h
                refine G_r _ 6 rfl (by decide +kernel) (R_ld sc2 h) ?_
                intro v h
                refine G_p 7 rfl (by decide +kernel) (Y_su h) ?_
                intro v h
                refine G_p 8 rfl (by decide +kernel) (Y_mv h) ?_
                intro v h
                refine G_p 9 rfl (by decide +kernel) (Y_mv h) ?_
                intro v h
                refine G_p 10 rfl (by decide +kernel) (Y_ia se43 h) ?_
                intro v h
                refine G_p 11 rfl (by decide +kernel) (Y_fa fo23_0 h) ?_
                intro v h
                refine G_r _ 12 rfl (by decide +kernel) (R_ld sc2 h) ?_
                intro v h
                refine G_p 13 rfl (by decide +kernel) (Y_re h) ?_
                intro v h
                refine G_p 14 rfl (by decide +kernel) (Y_su h) ?_
                intro v h
                refine G_p 15 rfl (by decide +kernel) (Y_as h) ?_
                intro v h
                refine G_done (by decide +kernel) ?_
                refine E_n ?_
                refine wp_seq ?_
                refine C_join (fun (k : Value → Value → Value → Value → Value → Value → Value → Value → M) (ρ : Nat → Value) => k (ρ 0) (ρ 2) (ρ 7) (ρ 8) (ρ 9) (ρ 10) (ρ 11) (ρ 12)) h (fun j6 J6 h => ?_) (fun ρ w h => ?_)
                · refine C_blk ?_
                  refine C_lo (fun (l : Value → Value → Value → Value → Value → Value → Value → Value → M) (ρ : Nat → Value) => l (ρ 0) (ρ 2) (ρ 7) (ρ 8) (ρ 9) (ρ 10) (ρ 11) (ρ 12)) h (fun ρ w h => h) (fun nx self7 L7 ρ w h => ?_)
                  unfold f21_b7 at h
                  refine wp_seq ?_
                  refine wp_seq ?_
                  refine L_region ?_
                  refine L_mv ?_
                  refine L_mv ?_
                  refine L_u (P_le h) ?_
                  intro v w h
                  refine L_nil ?_
                  refine E_n ?_
                  refine C_cnd h (fun h => ?_) (fun h => ?_)
                  · refine C_skip ?_
                    refine E_n ?_
                    refine C_blk ?_
                    refine L_region ?_
                    refine L_mv ?_
                    refine L_mv ?_
                    refine L_mv ?_
                    refine L_u (P_ia se43 h) ?_
                    intro v w h
                    refine L_u (P_fa fo23_0 h) ?_
                    intro v w h
                    refine L_u (P_ld sc2 h) ?_
                    intro v w h
                    refine L_u (P_ad h) ?_
                    intro v w h
                    refine L_as ?_
                    refine L_nil ?_
                    refine B_n ?_
                    refine E_n ?_
                    exact L7 _ _ h
                  · refine C_exit ?_
                    refine E_x ?_
                    refine E_x ?_
                    refine B_x ?_
                    exact J6 _ _ h
                · unfold f21_j6 at h
                  refine E_n ?_
                  refine wp_seq ?_
                  refine L_region ?_
                  refine L_mv ?_
                  refine L_u (P_nt h) ?_
                  intro v w h
                  refine L_mv ?_
                  refine L_g (t := 62) h rfl rfl (fun c h => P_mv h c) ?_
                  intro v w h
                  refine L_g (t := 62) h rfl rfl (fun c h => P_mv h c) ?_
                  intro v w h
                  refine L_g (t := 62) h rfl rfl (fun c h => P_lt h c) ?_
                  intro v w h
                  refine L_u (P_pk h) ?_
                  intro v w h
                  refine L_nil ?_
                  refine E_n ?_
                  refine C_cnd h (fun h => ?_) (fun h => ?_)
                  · refine wp_seq ?_
                    refine L_region ?_
                    refine L_mv ?_
                    refine L_as ?_
                    refine L_nil ?_
                    refine E_n ?_
                    refine L_region ?_
                    refine L_as ?_
                    refine L_nil ?_
                    refine B_n ?_
                    exact J5 _ _ h
                  · refine C_skip ?_
                    refine B_n ?_
                    exact J5 _ _ h
            · unfold f21_j5 at h
              refine E_n ?_
              refine L_region ?_
              refine L_mv ?_
              refine L_u (P_ad h) ?_
              intro v w h
              refine L_as ?_
              refine L_nil ?_
              refine E_n ?_
              exact L4 _ _ h
          · refine C_exit ?_
            refine E_x ?_
            refine E_x ?_
            refine B_x ?_
            exact J3 _ _ h
        · unfold f21_j3 at h
          refine E_n ?_
          refine wp_seq ?_
          refine wp_seq ?_
          refine L_region ?_
          refine L_mv ?_
          refine L_u (P_nt h) ?_
          intro v w h
          refine L_nil ?_
          refine E_n ?_
          refine C_cnd h (fun h => ?_) (fun h => ?_)
          · refine C_exit ?_
            refine E_x ?_
            refine B_o rfl ?_
            refine E_x ?_
            refine B_x ?_
            exact J1 _ _ h
          · refine C_skip ?_
            refine E_n ?_
            refine wp_seq ?_
            refine L_region ?_
            refine L_mv ?_
            refine L_mv ?_
            refine L_u (N_bsl h) ?_
            intro v w h
            refine L_u (N_bi rfl h) ?_
            intro v w h
            refine L_as ?_
            refine L_nil ?_
            refine E_n ?_
            refine L_region ?_
            refine L_mv ?_
            refine L_as ?_
            refine L_nil ?_
            refine B_n ?_
            refine E_n ?_
            exact L2 _ _ h
      · refine C_exit ?_
        refine E_x ?_
        refine E_x ?_
        refine B_x ?_
        exact J1 _ _ h
    · unfold f21_j1 at h
      refine E_n ?_
      refine wp_seq ?_
      refine L_region ?_
      refine L_mv ?_
      refine L_as ?_
      refine L_nil ?_
      refine E_n ?_
      refine C_ret ?_
      show bodyPost Try.prog Try.f21 (Rt Q) .ret _ _
      exact post_tmps (ts := [6]) (.inr rfl) rfl h

def f6_b2 (j1 : M) (self2 : Value → Value → Value → M) (t7 t8 t9 : Value) : M := lnl t7 fun t33 => lt .i64 t9 t33 fun t34 => cnd t34 ( dr <| idv t7 fun t37 => idv t9 fun t38 => ia 1 t37 t38 fun t39 => ld t39 fun t40 => idv t8 fun t41 => idv t9 fun t42 => ia 1 t41 t42 fun t43 => ld t43 fun t44 => nei .i64 t40 t44 fun t45 => cnd t45 ( rt (.bool false) ) ( ad .i64 t9 (.int .i64 1) fun t36 => self2 t7 t8 t36 ) ) ( j1 )
def f6_j1 : M := rt (.bool true)
def f6 (t0 t1 t2 : Value) : M := cl (f7) fun t10 => nt t10 fun t11 => cnd t11 ( rt (.bool false) ) ( lnl t0 fun t14 => mnm t14 (.int .i64 20) fun t15 => sll 2 t0 none (some t15) fun t16 => cl (f20 t16) fun t18 => cl (f19 t18 t1 t2) fun t21 => cl (f21 t16 t1 t2) fun t25 => lnl t21 fun t27 => lnl t25 fun t29 => nei .i64 t27 t29 fun t30 => cnd t30 ( rt (.bool false) ) ( jn (fun (j1 : M) => lo (fun _ _ _ => bot) (f6_b2 j1) (fun l => l t21 t25 (.int .i64 0)) ) (f6_j1) ) )
theorem s6 (t0 t1 t2 : Value) (w : World) (Q : Value → World → Prop) (h : f6 t0 t1 t2 w Q) : Calls Try.prog 6 #[t0, t1, t2] w (Rt Q) := by
  refine calls_of (l := [t0, t1, t2]) Try.func6 rfl Try.ntmps6 (Nat.le_of_ble_eq_true rfl) ?_
  unfold f6 at h
  refine wp_seq ?_
  refine L_region ?_
  refine L_as ?_
  refine L_nil ?_
  refine E_n ?_
  refine wp_seq ?_
  refine wp_seq ?_
  refine L_region ?_
  refine L_u (N_cl Try.func7 rfl nn7 (fun w Q h => s7 w Q h) h) ?_
  intro v w h
  refine L_u (P_nt h) ?_
  intro v w h
  refine L_nil ?_
  refine E_n ?_
  refine C_cnd h (fun h => ?_) (fun h => ?_)
  · refine wp_seq ?_
    refine L_region ?_
    refine L_as ?_
    refine L_nil ?_
    refine E_n ?_
    refine C_ret ?_
    show bodyPost Try.prog Try.f6 (Rt Q) .ret _ _
    exact post_tmps (ts := [6]) (.inr rfl) rfl h
  · refine C_skip ?_
    refine E_n ?_
    refine wp_seq ?_
    refine L_region ?_
    refine L_mv ?_
    refine L_mv ?_
    refine L_u (P_lnl is43 h) ?_
    intro v w h
    refine L_u (P_mnm (t := 0) h) ?_
    intro v w h
    refine L_u (P_sll se43 h) ?_
    intro v w h
    refine L_as ?_
    refine L_nil ?_
    refine E_n ?_
    refine wp_seq ?_
    refine L_region ?_
    refine L_mv ?_
    refine L_u (N_cl Try.func20 rfl nn20 (fun w Q h => s20 _ w Q h) h) ?_
    intro v w h
    refine L_mv ?_
    refine L_mv ?_
    refine L_u (N_cl Try.func19 rfl nn19 (fun w Q h => s19 _ _ _ w Q h) h) ?_
    intro v w h
    refine L_mv ?_
    refine L_mv ?_
    refine L_mv ?_
    refine L_u (N_cl Try.func21 rfl nn21 (fun w Q h => s21 _ _ _ w Q h) h) ?_
    intro v w h
    refine L_as ?_
    refine L_as ?_
    refine L_nil ?_
    refine E_n ?_
    refine wp_seq ?_
    refine wp_seq ?_
    refine L_region ?_
    refine L_mv ?_
    refine L_u (P_lnl is44 h) ?_
    intro v w h
    refine L_mv ?_
    refine L_u (P_lnl is44 h) ?_
    intro v w h
    refine L_u (P_nei h) ?_
    intro v w h
    refine L_nil ?_
    refine E_n ?_
    refine C_cnd h (fun h => ?_) (fun h => ?_)
    · refine wp_seq ?_
      refine L_region ?_
      refine L_as ?_
      refine L_nil ?_
      refine E_n ?_
      refine C_ret ?_
      show bodyPost Try.prog Try.f6 (Rt Q) .ret _ _
      exact post_tmps (ts := [6]) (.inr rfl) rfl h
    · refine C_skip ?_
      refine E_n ?_
      refine wp_seq ?_
      refine wp_seq ?_
      refine L_region ?_
      refine L_as ?_
      refine L_nil ?_
      refine E_n ?_
      refine C_join (fun (k : M) (ρ : Nat → Value) => k) h (fun j1 J1 h => ?_) (fun ρ w h => ?_)
      · refine C_blk ?_
        refine C_lo (fun (l : Value → Value → Value → M) (ρ : Nat → Value) => l (ρ 7) (ρ 8) (ρ 9)) h (fun ρ w h => h) (fun nx self2 L2 ρ w h => ?_)
        unfold f6_b2 at h
        refine wp_seq ?_
        refine wp_seq ?_
        refine L_region ?_
        refine L_mv ?_
        refine L_mv ?_
        refine L_u (P_lnl is44 h) ?_
        intro v w h
        refine L_u (P_lt h) ?_
        intro v w h
        refine L_nil ?_
        refine E_n ?_
        refine C_cnd h (fun h => ?_) (fun h => ?_)
        · refine C_skip ?_
          refine E_n ?_
          refine wp_seq ?_
          refine C_blk ?_
          refine wp_seq ?_
          refine D_region (by decide +kernel) 9 rfl ?_
          replace h := dr_e h
          refine G_p 0 rfl (by decide +kernel) (Y_mv h) ?_
          intro v h
          refine G_p 1 rfl (by decide +kernel) (Y_mv h) ?_
          intro v h
          refine G_p 2 rfl (by decide +kernel) (Y_ia se44 h) ?_
          intro v h
          refine G_r _ 3 rfl (by decide +kernel) (R_ld sc2 h) ?_
          intro v h
          refine G_p 4 rfl (by decide +kernel) (Y_mv h) ?_
          intro v h
          refine G_p 5 rfl (by decide +kernel) (Y_mv h) ?_
          intro v h
          refine G_p 6 rfl (by decide +kernel) (Y_ia se44 h) ?_
          intro v h
          refine G_r _ 7 rfl (by decide +kernel) (R_ld sc2 h) ?_
          intro v h
          refine G_p 8 rfl (by decide +kernel) (Y_nei h) ?_
          intro v h
          refine G_done (by decide +kernel) ?_
          refine E_n ?_
          refine C_cnd h (fun h => ?_) (fun h => ?_)
          · refine wp_seq ?_
            refine L_region ?_
            refine L_as ?_
            refine L_nil ?_
            refine E_n ?_
            refine C_ret ?_
            show bodyPost Try.prog Try.f6 (Rt Q) .ret _ _
            exact post_tmps (ts := [6]) (.inr rfl) rfl h
          · refine C_skip ?_
            refine B_n ?_
            refine E_n ?_
            refine L_region ?_
            refine L_mv ?_
            refine L_u (P_ad h) ?_
            intro v w h
            refine L_as ?_
            refine L_nil ?_
            refine E_n ?_
            exact L2 _ _ h
        · refine C_exit ?_
          refine E_x ?_
          refine E_x ?_
          refine B_x ?_
          exact J1 _ _ h
      · unfold f6_j1 at h
        refine E_n ?_
        refine wp_seq ?_
        refine L_region ?_
        refine L_as ?_
        refine L_nil ?_
        refine E_n ?_
        refine C_ret ?_
        show bodyPost Try.prog Try.f6 (Rt Q) .ret _ _
        exact post_tmps (ts := [6]) (.inr rfl) rfl h

def f51 (t0 t1 t2 : Value) : M := dr <| idv t0 fun t7 => idv t1 fun t8 => ia 3 t7 t8 fun t9 => fa 2 t9 fun t10 => ld t10 fun t11 => idv t0 fun t12 => idv t2 fun t13 => ia 3 t12 t13 fun t14 => fa 2 t14 fun t15 => ld t15 fun t16 => lt .i64 t11 t16 fun t17 => idv t17 fun t6 => rt t6
theorem s51 (t0 t1 t2 : Value) (w : World) (Q : Value → World → Prop) (h : f51 t0 t1 t2 w Q) : Calls Try.prog 51 #[t0, t1, t2] w (Rt Q) := by
  refine calls_of (l := [t0, t1, t2]) Try.func51 rfl Try.ntmps51 (Nat.le_of_ble_eq_true rfl) ?_
  unfold f51 at h
  refine wp_seq ?_
  refine L_region ?_
  refine L_as ?_
  refine L_nil ?_
  refine E_n ?_
  refine wp_seq ?_
  refine D_region (by decide +kernel) 12 rfl ?_
  replace h := dr_e h
  refine G_p 0 rfl (by decide +kernel) (Y_mv h) ?_
  intro v h
  refine G_p 1 rfl (by decide +kernel) (Y_mv h) ?_
  intro v h
  refine G_p 2 rfl (by decide +kernel) (Y_ia se56 h) ?_
  intro v h
  refine G_p 3 rfl (by decide +kernel) (Y_fa fo58_1 h) ?_
  intro v h
  refine G_r _ 4 rfl (by decide +kernel) (R_ld sc2 h) ?_
  intro v h
  refine G_p 5 rfl (by decide +kernel) (Y_mv h) ?_
  intro v h
  refine G_p 6 rfl (by decide +kernel) (Y_mv h) ?_
  intro v h
  refine G_p 7 rfl (by decide +kernel) (Y_ia se56 h) ?_
  intro v h
  refine G_p 8 rfl (by decide +kernel) (Y_fa fo58_1 h) ?_
  intro v h
  refine G_r _ 9 rfl (by decide +kernel) (R_ld sc2 h) ?_
  intro v h
  refine G_p 10 rfl (by decide +kernel) (Y_lt h) ?_
  intro v h
  refine G_p 11 rfl (by decide +kernel) (Y_as h) ?_
  intro v h
  refine G_done (by decide +kernel) ?_
  refine E_n ?_
  refine C_ret ?_
  show bodyPost Try.prog Try.f51 (Rt Q) .ret _ _
  exact post_tmps (ts := [6]) (.inr rfl) rfl h

def f52 (t0 t1 t2 : Value) : M := dr <| idv t0 fun t6 => idv t1 fun t7 => idv t0 fun t8 => idv t2 fun t9 => idv t0 fun t10 => idv t2 fun t11 => ia 3 t10 t11 fun t12 => ldn 3 t12 fun t13 => idv t0 fun t14 => idv t1 fun t15 => ia 3 t14 t15 fun t16 => ldn 3 t16 fun t17 => ia 3 t6 t7 fun t18 => stn 3 t18 t13 <| ia 3 t8 t9 fun t19 => stn 3 t19 t17 <| rt (.tuple #[])
theorem s52 (t0 t1 t2 : Value) (w : World) (Q : Value → World → Prop) (h : f52 t0 t1 t2 w Q) : Calls Try.prog 52 #[t0, t1, t2] w (Rt Q) := by
  refine calls_of (l := [t0, t1, t2]) Try.func52 rfl Try.ntmps52 (Nat.le_of_ble_eq_true rfl) ?_
  unfold f52 at h
  refine D_region (by decide +kernel) 16 rfl ?_
  replace h := dr_e h
  refine G_p 0 rfl (by decide +kernel) (Y_mv h) ?_
  intro v h
  refine G_p 1 rfl (by decide +kernel) (Y_mv h) ?_
  intro v h
  refine G_p 2 rfl (by decide +kernel) (Y_mv h) ?_
  intro v h
  refine G_p 3 rfl (by decide +kernel) (Y_mv h) ?_
  intro v h
  refine G_p 4 rfl (by decide +kernel) (Y_mv h) ?_
  intro v h
  refine G_p 5 rfl (by decide +kernel) (Y_mv h) ?_
  intro v h
  refine G_p 6 rfl (by decide +kernel) (Y_ia se56 h) ?_
  intro v h
  refine G_r _ 7 rfl (by decide +kernel) (R_ldn ag58 h) ?_
  intro v h
  refine G_p 8 rfl (by decide +kernel) (Y_mv h) ?_
  intro v h
  refine G_p 9 rfl (by decide +kernel) (Y_mv h) ?_
  intro v h
  refine G_p 10 rfl (by decide +kernel) (Y_ia se56 h) ?_
  intro v h
  refine G_r _ 11 rfl (by decide +kernel) (R_ldn ag58 h) ?_
  intro v h
  refine G_p 12 rfl (by decide +kernel) (Y_ia se56 h) ?_
  intro v h
  refine G_e 13 rfl (by decide +kernel) (P_stn ag58 h ?_)
  intro w h
  refine ⟨keepF_dep [11] (by decide +kernel) rfl (keepF_dep [7] (by decide +kernel) rfl keepF_nil), ?_⟩
  refine G_p 14 rfl (by decide +kernel) (Y_ia se56 h) ?_
  intro v h
  refine G_e 15 rfl (by decide +kernel) (P_stn ag58 h ?_)
  intro w h
  refine ⟨keepF_dep [11] (by decide +kernel) rfl (keepF_dep [7] (by decide +kernel) rfl keepF_nil), ?_⟩
  refine G_done (by decide +kernel) ?_
  show bodyPost Try.prog Try.f52 (Rt Q) .normal _ _
  exact post_tmps (ts := []) (.inl rfl) rfl h
end Go.Proofs.Ytnckcgpmidgggaa

namespace Go.Proofs.Ytnckcgpmidgggaa
namespace Sh
open RowKit
section
variable {P : Program} {w : World} {Q : Value → World → Prop} {K : Value → M} {B : Nat}
/-- a block that is there stays -/
theorem stay {w w' : World} {p : Nat} {o : Obj} (hb : Below w.heap.size w w') (h : w.heap[p]? = some o) : w'.heap[p]? = some o := by
  rcases Nat.lt_or_ge p w.heap.size with hp | hp
  · rw [hb.block p hp]; exact h
  · simp [Array.getElem?_eq_none hp] at h
theorem blk_lt {w : World} {p : Nat} {o : Obj} (h : w.heap[p]? = some o) : p < w.heap.size := by
  rcases Nat.lt_or_ge p w.heap.size with hp | hp
  · exact hp
  · simp [Array.getElem?_eq_none hp] at h
theorem bt {w0 w w' : World} (b : Below w0.heap.size w0 w) (hb : Below w.heap.size w w') : Below w0.heap.size w0 w' := b.trans (hb.mono b.size)
theorem bt' {B : Nat} {w0 w w' : World} (b : Below B w0 w) (hB : B ≤ w.heap.size) (hb : Below w.heap.size w w') : Below B w0 w' := b.trans (hb.mono hB)
theorem b_psh (w : World) (o : Obj) : Below w.heap.size w (psh w o) := Below_psh (Below.refl _ w) (Nat.le_refl _)
end
end Sh
end Go.Proofs.Ytnckcgpmidgggaa

namespace Go.Proofs.Ytnckcgpmidgggaa
open Sh RowKit

theorem w64' {a : Int} (h0 : -9223372036854775808 ≤ a) (h1 : a ≤ 9223372036854775807) : IntKind.i64.wrap a = a := w64 h0 h1
theorem q_cong {Q : Value → World → Prop} {w : World} {b c : Bool} (h : b = c) (hq : Q (.bool b) w) : Q (.bool c) w := h ▸ hq
theorem rds2 {w : World} {b : Nat} {c : Array Value} {t : TypeId} {fr : Nat × Nat} (h : w.heap[b]? = some (.cells c t fr)) : rds w ⟨b, 0, none⟩ c :=
  rds_of_blk h (fun j v hj => by simpa using hj)
theorem ldn_box {n b : Nat} {w : World} {c : Array Value} {t : TypeId} {fr : Nat × Nat} {K : Value → M} {Q : Value → World → Prop} (h : w.heap[b]? = some (.cells c t fr)) (hn : c.size = n) (k : K (.agg c) w Q) : ldn n (.pointer (some ⟨b, 0, none⟩)) K w Q :=
  ⟨_, c, rfl, hn, rds2 h, k⟩

/-! plain laws -/
/-- how many times of a round are ahead of one -/
def ah (E A t : Int) : Int := (t - 1 - A) / E
/-- the first time that isn't ahead of one -/
def bh (E A t : Int) : Int := A + (E * ah E A t + E)
theorem ah_spec {E : Int} (hE : 1 ≤ E) (A t : Int) : ∃ r, 0 ≤ r ∧ r < E ∧ t - 1 - A = r + E * ah E A t := by
  have h := Int.emod_add_mul_ediv (t - 1 - A) E
  exact ⟨(t - 1 - A) % E, Int.emod_nonneg _ (by omega), Int.emod_lt_of_pos _ (by omega), h.symm⟩
theorem bh_bd {E : Int} (hE : 1 ≤ E) (A t : Int) : t ≤ bh E A t ∧ bh E A t < t + E := by
  obtain ⟨r, h0, h1, h⟩ := ah_spec hE A t
  unfold bh
  generalize E * ah E A t = z at *
  omega
theorem emod_u {x E r q : Int} (h0 : 0 ≤ r) (h1 : r < E) (h : x = r + E * q) : x % E = r := by
  rw [h, Int.add_mul_emod_self_left]
  exact Int.emod_eq_of_lt h0 h1
theorem bh_eq {E : Int} (hE : 1 ≤ E) (A t : Int) : t + (A - t) % E = bh E A t := by
  obtain ⟨r, h0, h1, h⟩ := ah_spec hE A t
  have e : (A - t) % E = E - 1 - r := by
    refine emod_u (q := - ah E A t - 1) (by omega) (by omega) ?_
    rw [Int.mul_sub, Int.mul_neg, Int.mul_one]
    generalize E * ah E A t = z at *
    omega
  rw [e]
  unfold bh
  generalize E * ah E A t = z at *
  omega
theorem modI {E x : Int} (hE : 1 ≤ E) : (x.tmod E + E).tmod E = x % E := by
  have h0 := Int.emod_nonneg x (show E ≠ 0 by omega)
  have h1 := Int.emod_lt_of_pos x (show 0 < E by omega)
  have h2 : x.tmod E = x % E ∨ x.tmod E = x % E - E := by
    rw [Int.tmod_eq_emod]
    split
    · left; simp
    · right; omega
  rw [Int.tmod_eq_emod_of_nonneg (by omega)]
  rcases h2 with h2 | h2
  · exact emod_u (q := 1) h0 h1 (by omega)
  · exact emod_u (q := 0) h0 h1 (by omega)
theorem modI_bd {E x : Int} (hE : 1 ≤ E) : -E < x.tmod E ∧ x.tmod E < E := by
  have h0 := Int.emod_nonneg x (show E ≠ 0 by omega)
  have h1 := Int.emod_lt_of_pos x (show 0 < E by omega)
  rw [Int.tmod_eq_emod]
  split
  · simp; omega
  · rename_i h
    have : ¬ x % E = 0 := fun e => h (.inr (Int.dvd_of_emod_eq_zero e))
    omega
def rrB (E A : Int) : Bool := decide (1 ≤ E) && decide (E ≤ 1099511627776) && decide (0 ≤ A) && decide (A < E)
def nearB (t : Int) : Bool := decide (-1152921504606846976 ≤ t) && decide (t ≤ 1152921504606846976)
theorem rrB_t {E A : Int} : rrB E A = true ↔ 1 ≤ E ∧ E ≤ 1099511627776 ∧ 0 ≤ A ∧ A < E := by simp [rrB, and_assoc]
theorem nearB_t {t : Int} : nearB t = true ↔ -1152921504606846976 ≤ t ∧ t ≤ 1152921504606846976 := by simp [nearB]
def rdC (E A : Int) : Array Value := #[.int .i64 E, .int .i64 A]
def rdV (E A : Int) : Value := .agg (rdC E A)

theorem f11_s (E A : Int) (w : World) (Q : Value → World → Prop) (h : ∀ w', Below w.heap.size w w' → Q (.bool (rrB E A)) w') : f11 (rdV E A) w Q := by
  have hb := h _ (b_psh w (.cells (rdC E A) 27))
  unfold f11 rdV
  unfold rdC at *
  clear h
  repeat' (first | (simp only [↓reduceIte, ↓LL, LM, Value.cells, Nat.reduceAdd, Option.some.injEq, exists_eq_left', decide_true, decide_false, if_true, if_false, reduceCtorEq, cond_true, cond_false, *]; done) | (simp only [↓reduceIte, ↓LL, LM, Value.cells, Nat.reduceAdd, Option.some.injEq, exists_eq_left', decide_true, decide_false, if_true, if_false, reduceCtorEq, cond_true, cond_false, *]) | split)
  all_goals (refine q_cong ?_ hb; rw [Bool.eq_iff_iff]; simp [rrB]; try omega)
theorem f12_s (E A : Int) (w : World) (Q : Value → World → Prop) (h : ∀ w', Below w.heap.size w w' → Q (.bool (rrB E A)) w') : f12 (rdV E A) w Q := by
  have hb := h _ (b_psh w (.cells (rdC E A) 23))
  unfold f12 rdV
  unfold rdC at *
  clear h
  repeat' (first | (simp only [↓reduceIte, ↓LL, LM, Value.cells, Nat.reduceAdd, Option.some.injEq, exists_eq_left', decide_true, decide_false, if_true, if_false, reduceCtorEq, cond_true, cond_false, *]; done) | (simp only [↓reduceIte, ↓LL, LM, Value.cells, Nat.reduceAdd, Option.some.injEq, exists_eq_left', decide_true, decide_false, if_true, if_false, reduceCtorEq, cond_true, cond_false, *]) | split)
  all_goals (refine q_cong ?_ hb; rw [Bool.eq_iff_iff]; simp [rrB]; try omega)
theorem f22_s (t : Int) (w : World) (Q : Value → World → Prop) (h : Q (.bool (nearB t)) w) : f22 (.int .i64 t) w Q := by
  unfold f22
  repeat' (first | (simp only [↓reduceIte, ↓LL, LM, Value.cells, Nat.reduceAdd, Option.some.injEq, exists_eq_left', decide_true, decide_false, if_true, if_false, reduceCtorEq, cond_true, cond_false, *]; done) | (simp only [↓reduceIte, ↓LL, LM, Value.cells, Nat.reduceAdd, Option.some.injEq, exists_eq_left', decide_true, decide_false, if_true, if_false, reduceCtorEq, cond_true, cond_false, *]) | split)
  all_goals (refine q_cong ?_ h; rw [Bool.eq_iff_iff]; simp [nearB]; try omega)
theorem f24_s (t : Int) (w : World) (Q : Value → World → Prop) (h : Q (.bool (nearB t)) w) : f24 (.int .i64 t) w Q := by
  unfold f24
  repeat' (first | (simp only [↓reduceIte, ↓LL, LM, Value.cells, Nat.reduceAdd, Option.some.injEq, exists_eq_left', decide_true, decide_false, if_true, if_false, reduceCtorEq, cond_true, cond_false, *]; done) | (simp only [↓reduceIte, ↓LL, LM, Value.cells, Nat.reduceAdd, Option.some.injEq, exists_eq_left', decide_true, decide_false, if_true, if_false, reduceCtorEq, cond_true, cond_false, *]) | split)
  all_goals (refine q_cong ?_ h; rw [Bool.eq_iff_iff]; simp [nearB]; try omega)
theorem f27_s (a b : Int) (hb : 1 ≤ b) (hb2 : b ≤ 1099511627776) (w : World) (Q : Value → World → Prop) (h : Q (.int .i64 (a % b)) w) : f27 (.int .i64 a) (.int .i64 b) w Q := by
  unfold f27
  have bd := modI_bd (x := a) hb
  have e : IntKind.i64.wrap (a.tmod b + b) = a.tmod b + b := w64' (by omega) (by omega)
  have hne : b ≠ 0 := by omega
  simp only [↓reduceIte, ↓LL, LM, Value.cells, Nat.reduceAdd, Option.some.injEq, exists_eq_left', decide_true, decide_false, if_true, if_false, reduceCtorEq, cond_true, cond_false, e, ne_eq, hne, not_false_eq_true, true_and, modI hb]
  exact h
theorem f23_s (E A t : Int) (hE : 1 ≤ E) (hE2 : E ≤ 1099511627776) (hA : 0 ≤ A) (hA2 : A < E) (h0 : -1152921504606846977 ≤ t) (h1 : t ≤ 1152921504606846977) (w : World) (Q : Value → World → Prop) (h : ∀ w', Below w.heap.size w w' → Q (.int .i64 (bh E A t)) w') : f23 (rdV E A) (.int .i64 t) w Q := by
  have hb := h _ (b_psh w (.cells (rdC E A) 27))
  unfold f23 rdV
  unfold rdC at *
  have e : IntKind.i64.wrap (A - t) = A - t := w64' (by omega) (by omega)
  simp only [↓reduceIte, ↓LL, LM, Value.cells, Nat.reduceAdd, Option.some.injEq, exists_eq_left', decide_true, decide_false, if_true, if_false, reduceCtorEq, cond_true, cond_false, e]
  refine f27_s _ _ hE hE2 _ _ ?_
  simp only [↓reduceIte, ↓LL, LM, Value.cells, Nat.reduceAdd, Option.some.injEq, exists_eq_left', decide_true, decide_false, if_true, if_false, reduceCtorEq, cond_true, cond_false, bh_eq hE]
  have bd := bh_bd hE A t
  rw [w64' (by omega) (by omega)]
  exact hb
def nextP (E A t : Int) : Int × Bool := if rrB E A = true ∧ nearB t = true then (bh E A (t + 1), true) else (0, false)
theorem f8_s (E A t : Int) (w : World) (Q : Value → World → Prop) (h : ∀ w', Below w.heap.size w w' → Q (.tuple #[.int .i64 (nextP E A t).1, .bool (nextP E A t).2]) w') : f8 (rdV E A) (.int .i64 t) w Q := by
  unfold f8
  simp only [↓bx_e, ↓cl_e]
  rw [show (rdV E A).cells = rdC E A from rfl]
  have hp0 := blk_psh_new (w := w) (o := .cells (rdC E A) 27)
  refine ldn_box hp0 rfl ?_
  rw [cl_e]
  refine f11_s E A _ _ fun w1 hb => ?_
  have b1 := bt (b_psh w _) hb
  have hp1 := stay hb hp0
  cases hR : rrB E A with
  | false =>
    simp only [↓reduceIte, ↓LL, LM, Value.cells, Nat.reduceAdd, Option.some.injEq, exists_eq_left', decide_true, decide_false, if_true, if_false, reduceCtorEq, cond_true, cond_false]
    simpa [nextP, hR] using h _ b1
  | true =>
    simp only [↓reduceIte, ↓LL, LM, Value.cells, Nat.reduceAdd, Option.some.injEq, exists_eq_left', decide_true, decide_false, if_true, if_false, reduceCtorEq, cond_true, cond_false]
    refine f22_s _ _ _ ?_
    cases hN : nearB t with
    | false =>
      simp only [↓reduceIte, ↓LL, LM, Value.cells, Nat.reduceAdd, Option.some.injEq, exists_eq_left', decide_true, decide_false, if_true, if_false, reduceCtorEq, cond_true, cond_false]
      simpa [nextP, hN] using h _ b1
    | true =>
      obtain ⟨r1, r2, r3, r4⟩ := rrB_t.1 hR
      have n := nearB_t.1 hN
      have e : IntKind.i64.wrap (t + 1) = t + 1 := w64' (by omega) (by omega)
      simp only [↓reduceIte, ↓LL, LM, Value.cells, Nat.reduceAdd, Option.some.injEq, exists_eq_left', decide_true, decide_false, if_true, if_false, reduceCtorEq, cond_true, cond_false]
      refine ldn_box hp1 rfl ?_
      simp only [↓ad_e, ↓cl_e, e]
      refine f23_s E A _ r1 r2 r3 r4 (by omega) (by omega) _ _ fun w2 hb => ?_
      simp only [↓reduceIte, ↓LL, LM, Value.cells, Nat.reduceAdd, Option.some.injEq, exists_eq_left', decide_true, decide_false, if_true, if_false, reduceCtorEq, cond_true, cond_false]
      simpa [nextP, hR, hN] using h _ (bt b1 hb)
def countP (E A x y : Int) : Int := if rrB E A = true ∧ nearB x = true ∧ nearB y = true ∧ x < y then ah E A y - ah E A x else 0
theorem ah_bd {E : Int} (hE : 1 ≤ E) {A t : Int} (hA : 0 ≤ A) (hA2 : A ≤ 1099511627776) (h0 : -1152921504606846977 ≤ t) (h1 : t ≤ 1152921504606846977) : -2305843009213693952 ≤ ah E A t ∧ ah E A t ≤ 2305843009213693952 := by
  unfold ah
  constructor
  · rw [Int.le_ediv_iff_mul_le (by omega)]
    have : -2305843009213693952 * E ≤ -2305843009213693952 * 1 := Int.mul_le_mul_of_nonpos_left (by omega) (by omega)
    omega
  · have : (t - 1 - A) / E < 2305843009213693952 := by
      rw [Int.ediv_lt_iff_lt_mul (by omega)]
      have : 2305843009213693952 * 1 ≤ 2305843009213693952 * E := Int.mul_le_mul_of_nonneg_left (by omega) (by omega)
      omega
    omega
theorem f15_s (E A x y : Int) (w : World) (Q : Value → World → Prop) (h : ∀ w', Below w.heap.size w w' → Q (.int .i64 (countP E A x y)) w') : f15 (rdV E A) (.int .i64 x) (.int .i64 y) w Q := by
  unfold f15
  simp only [↓bx_e, ↓cl_e]
  rw [show (rdV E A).cells = rdC E A from rfl]
  have hp0 := blk_psh_new (w := w) (o := .cells (rdC E A) 27)
  refine ldn_box hp0 rfl ?_
  rw [cl_e]
  refine f11_s E A _ _ fun w1 hb => ?_
  have b1 := bt (b_psh w _) hb
  have hp1 := stay hb hp0
  cases hR : rrB E A with
  | false =>
    simp only [↓reduceIte, ↓LL, LM, Value.cells, Nat.reduceAdd, Option.some.injEq, exists_eq_left', decide_true, decide_false, if_true, if_false, reduceCtorEq, cond_true, cond_false]
    simpa [countP, hR] using h _ b1
  | true =>
    simp only [↓reduceIte, ↓LL, LM, Value.cells, Nat.reduceAdd, Option.some.injEq, exists_eq_left', decide_true, decide_false, if_true, if_false, reduceCtorEq, cond_true, cond_false]
    refine f22_s _ _ _ ?_
    cases hN : nearB x with
    | false =>
      simp only [↓reduceIte, ↓LL, LM, Value.cells, Nat.reduceAdd, Option.some.injEq, exists_eq_left', decide_true, decide_false, if_true, if_false, reduceCtorEq, cond_true, cond_false]
      simpa [countP, hN] using h _ b1
    | true =>
      simp only [↓reduceIte, ↓LL, LM, Value.cells, Nat.reduceAdd, Option.some.injEq, exists_eq_left', decide_true, decide_false, if_true, if_false, reduceCtorEq, cond_true, cond_false]
      refine f22_s _ _ _ ?_
      cases hN2 : nearB y with
      | false =>
        simp only [↓reduceIte, ↓LL, LM, Value.cells, Nat.reduceAdd, Option.some.injEq, exists_eq_left', decide_true, decide_false, if_true, if_false, reduceCtorEq, cond_true, cond_false]
        simpa [countP, hN2] using h _ b1
      | true =>
        by_cases c : y ≤ x
        · have c' : ¬ x < y := by omega
          simp only [↓reduceIte, ↓LL, LM, Value.cells, Nat.reduceAdd, Option.some.injEq, exists_eq_left', decide_true, decide_false, if_true, if_false, reduceCtorEq, cond_true, cond_false, c]
          simpa [countP, c'] using h _ b1
        · have c' : x < y := by omega
          obtain ⟨r1, r2, r3, r4⟩ := rrB_t.1 hR
          have n := nearB_t.1 hN
          have n2 := nearB_t.1 hN2
          have g : ∀ w', Below w.heap.size w w' → Q (.int .i64 (ah E A y - ah E A x)) w' := fun w' b => by simpa [countP, hR, hN, hN2, c'] using h w' b
          simp only [↓reduceIte, ↓LL, LM, Value.cells, Nat.reduceAdd, Option.some.injEq, exists_eq_left', decide_true, decide_false, if_true, if_false, reduceCtorEq, cond_true, cond_false, c]
          have hp1 : (drw w1).heap[w.heap.size]? = some (.cells (rdC E A) 27) := hp1
          have b1 : Below w.heap.size w (drw w1) := Below_drw b1
          generalize drw w1 = w1' at *
          have hc0 := cell_of_blk (n := 0) hp1
          refine ldn_box hp1 rfl ?_
          simp only [↓reduceIte, ↓LL, LM, Value.cells, Nat.reduceAdd, Option.some.injEq, exists_eq_left', decide_true, decide_false, if_true, if_false, reduceCtorEq, cond_true, cond_false]
          refine ldn_box hp1 rfl ?_
          simp only [↓reduceIte, ↓LL, LM, Value.cells, Nat.reduceAdd, Option.some.injEq, exists_eq_left', decide_true, decide_false, if_true, if_false, reduceCtorEq, cond_true, cond_false, hc0, rdC]
          refine f23_s E A _ r1 r2 r3 r4 (by omega) (by omega) _ _ fun w2 hb => ?_
          have hp2 := stay hb hp1
          have b2 := bt b1 hb
          have hc0 := cell_of_blk (n := 0) hp2
          simp only [↓reduceIte, ↓LL, LM, Value.cells, Nat.reduceAdd, Option.some.injEq, exists_eq_left', decide_true, decide_false, if_true, if_false, reduceCtorEq, cond_true, cond_false, Kld_e, Kldn_e, hc0]
          refine ⟨by simp [rdC], ⟨rfl, rds2 hp2⟩, ?_⟩
          refine f23_s E A _ r1 r2 r3 r4 (by omega) (by omega) _ _ fun w3 hb => ?_
          have hp3 := stay hb hp2
          have b3 := bt b2 hb
          have hc0 := cell_of_blk (n := 0) hp3
          simp only [↓reduceIte, ↓LL, LM, Value.cells, Nat.reduceAdd, Option.some.injEq, exists_eq_left', decide_true, decide_false, if_true, if_false, reduceCtorEq, cond_true, cond_false, Kld_e, Kldn_e, hc0]
          have e1 : bh E A y - bh E A x = E * (ah E A y - ah E A x) := by
            unfold bh; rw [Int.mul_sub]; omega
          have d1 := bh_bd r1 A x
          have d2 := bh_bd r1 A y
          have a1 := ah_bd r1 r3 (by omega) (show -1152921504606846977 ≤ x by omega) (by omega)
          have a2 := ah_bd r1 r3 (by omega) (show -1152921504606846977 ≤ y by omega) (by omega)
          have e2 : IntKind.i64.wrap (bh E A y - bh E A x) = E * (ah E A y - ah E A x) := by rw [w64' (by omega) (by omega)]; exact e1
          have e3 : IntKind.i64.wrap (ah E A y - ah E A x) = ah E A y - ah E A x := w64' (by omega) (by omega)
          rw [e2, Int.mul_tdiv_cancel_left _ (by omega), e3]
          exact ⟨by simp [rdC], by omega, g _ b3⟩
end Go.Proofs.Ytnckcgpmidgggaa

namespace Go.Proofs.Ytnckcgpmidgggaa
open Sh RowKit

theorem gcd_loop (j1 : Value → M) {Q : Value → World → Prop} {w0 : World} : ∀ (b a n : Nat), b < n → a ≤ 1099511627776 → b ≤ 1099511627776 → ∀ w, Below w0.heap.size w0 w → (∀ w', Below w0.heap.size w0 w' → j1 (.int .i64 (Nat.gcd a b : Nat)) w' Q) →
    itr (fun _ _ => bot) (f26_b2 j1) n (.int .i64 a) (.int .i64 b) w Q := by
  intro b
  induction b using Nat.strongRecOn with
  | _ b ih =>
    intro a n hn ha hb w hw k
    obtain ⟨n, rfl⟩ : ∃ m, n = m + 1 := ⟨n - 1, by omega⟩
    show f26_b2 j1 _ _ _ w Q
    unfold f26_b2
    by_cases c : b = 0
    · subst c
      simp only [↓reduceIte, ↓LL, LM, Value.cells, Nat.reduceAdd, Option.some.injEq, exists_eq_left', decide_true, decide_false, if_true, if_false, reduceCtorEq, cond_true, cond_false, Int.natCast_zero, ne_eq, not_true_eq_false]
      rw [Nat.gcd_zero_right] at k
      exact k _ hw
    · have hne : ¬ (b : Int) = 0 := by omega
      have hlt := Nat.mod_lt a (show 0 < b by omega)
      have e : (a : Int).tmod b = ((a % b : Nat) : Int) := by rw [Int.tmod_eq_emod_of_nonneg (by omega)]; rfl
      simp only [↓reduceIte, ↓LL, LM, Value.cells, Nat.reduceAdd, Option.some.injEq, exists_eq_left', decide_true, decide_false, if_true, if_false, reduceCtorEq, cond_true, cond_false, ne_eq, hne, not_false_eq_true, true_and, e]
      refine ih (a % b) hlt b n (by omega) (by omega) (by omega) _ (Below_drw hw) ?_
      intro w' hw'
      have : Nat.gcd b (a % b) = Nat.gcd a b := by rw [Nat.gcd_comm b, ← Nat.gcd_rec, Nat.gcd_comm]
      rw [this]
      exact k w' hw'
theorem f26_s (a b : Nat) (ha : a ≤ 1099511627776) (hb : b ≤ 1099511627776) (w : World) (Q : Value → World → Prop) (h : ∀ w', Below w.heap.size w w' → Q (.int .i64 (Nat.gcd a b : Nat)) w') : f26 (.int .i64 a) (.int .i64 b) w Q := by
  unfold f26
  rw [jn_e]
  refine ⟨_, gcd_loop _ b a _ (Nat.lt_succ_self _) ha hb w (Below.refl _ _) ?_⟩
  intro w' hw'
  unfold f26_j1
  rw [rt_e]
  exact h _ hw'
/-- what stays true of the numbers that the inverse goes on with -/
structure Inv (a m x y r s : Int) : Prop where
  r0 : 0 ≤ r
  s0 : 0 ≤ s
  rm : r ≤ m
  sm : s ≤ m
  cx : ∃ u, a * x = r + m * u
  cy : ∃ u, a * y = s + m * u
  co : ∀ d : Int, d ∣ r → d ∣ s → d ∣ 1
  bd : (0 ≤ x ∧ y ≤ 0 ∧ x * s - y * r = m) ∨ (x ≤ 0 ∧ 0 ≤ y ∧ y * r - x * s = m)
theorem Inv.abs {a m x y r s : Int} (h : Inv a m x y r s) (hs : 1 ≤ s) : -m ≤ x ∧ x ≤ m ∧ -m ≤ (r / s) * y ∧ (r / s) * y ≤ m ∧ 0 ≤ (r / s) * s ∧ (r / s) * s ≤ r := by
  have hq0 : 0 ≤ r / s := Int.ediv_nonneg h.r0 (by omega)
  have hq1 : (r / s) * s ≤ r := Int.ediv_mul_le r (by omega)
  have hq2 : 0 ≤ (r / s) * s := Int.mul_nonneg hq0 (by omega)
  have hq3 : r / s ≤ r := by
    have : (r / s) * 1 ≤ (r / s) * s := Int.mul_le_mul_of_nonneg_left hs hq0
    omega
  generalize r / s = q at *
  have hr0 := h.r0
  rcases h.bd with ⟨b1, b2, b3⟩ | ⟨b1, b2, b3⟩
  · have e1 : 0 ≤ x * (s - 1) := Int.mul_nonneg b1 (by omega)
    have e2 : 0 ≤ (-y) * r := Int.mul_nonneg (by omega) hr0
    have e3 : 0 ≤ (-y) * (r - q) := Int.mul_nonneg (by omega) (by omega)
    have e4 : 0 ≤ (-y) * q := Int.mul_nonneg (by omega) hq0
    have e5 : 0 ≤ x * s := Int.mul_nonneg b1 (by omega)
    refine ⟨?_, ?_, ?_, ?_, hq2, hq1⟩
    · grind
    · grind
    · grind
    · grind
  · have e1 : 0 ≤ (-x) * (s - 1) := Int.mul_nonneg (by omega) (by omega)
    have e2 : 0 ≤ y * r := Int.mul_nonneg (by omega) hr0
    have e3 : 0 ≤ y * (r - q) := Int.mul_nonneg (by omega) (by omega)
    have e4 : 0 ≤ y * q := Int.mul_nonneg (by omega) hq0
    have e5 : 0 ≤ (-x) * s := Int.mul_nonneg (by omega) (by omega)
    refine ⟨?_, ?_, ?_, ?_, hq2, hq1⟩
    · grind
    · grind
    · grind
    · grind
theorem Inv.step {a m x y r s : Int} (h : Inv a m x y r s) (hs : 1 ≤ s) : Inv a m y (x - (r / s) * y) s (r - (r / s) * s) := by
  have ab := h.abs hs
  have hq0 : 0 ≤ r / s := Int.ediv_nonneg h.r0 (by omega)
  have hr0 := h.r0
  have hm := h.rm
  refine ⟨by omega, by omega, h.sm, by omega, h.cy, ?_, ?_, ?_⟩
  · obtain ⟨u, hu⟩ := h.cx
    obtain ⟨v, hv⟩ := h.cy
    refine ⟨u - (r / s) * v, ?_⟩
    generalize r / s = q at *
    grind
  · intro d d1 d2
    refine h.co d ?_ d1
    have := Int.dvd_add d2 (Int.dvd_mul_of_dvd_right (b := r / s) d1)
    have e : r - r / s * s + r / s * s = r := by omega
    rw [e] at this
    exact this
  · generalize r / s = q at *
    rcases h.bd with ⟨b1, b2, b3⟩ | ⟨b1, b2, b3⟩
    · have e4 : 0 ≤ (-y) * q := Int.mul_nonneg (by omega) hq0
      refine .inr ⟨b2, ?_, ?_⟩ <;> grind
    · have e4 : 0 ≤ y * q := Int.mul_nonneg (by omega) hq0
      refine .inl ⟨b2, ?_, ?_⟩ <;> grind

theorem inv_exit (j1 : Value → Value → M) {Q : Value → World → Prop} {a m : Int} {w : World} (k : ∀ x, (∃ u, a * x = 1 + m * u) → j1 (.int .i64 m) (.int .i64 x) w Q) {x y r : Int} (h : Inv a m x y r 0) (n : Nat) :
    itr (fun _ _ _ _ _ => bot) (f32_b2 j1) (n + 1) (.int .i64 m) (.int .i64 x) (.int .i64 y) (.int .i64 r) (.int .i64 0) w Q := by
  show f32_b2 j1 _ _ _ _ _ _ w Q
  unfold f32_b2
  simp only [↓reduceIte, ↓LL, LM, Value.cells, Nat.reduceAdd, Option.some.injEq, exists_eq_left', decide_true, decide_false, if_true, if_false, reduceCtorEq, cond_true, cond_false, ne_eq, not_true_eq_false]
  refine k _ ?_
  have : r = 1 := by
    have h1 := h.co r (Int.dvd_refl r) ⟨0, by simp⟩
    have := Int.le_of_dvd (by omega) h1
    have := h.r0
    rcases Int.lt_or_eq_of_le h.r0 with c | c
    · omega
    · rw [← c] at h1
      simp at h1
  rw [← this]
  exact h.cx
theorem inv_loop (j1 : Value → Value → M) {Q : Value → World → Prop} {a m : Int} {w : World} (hm : 1 ≤ m) (hm2 : m ≤ 1099511627776) (k : ∀ x, (∃ u, a * x = 1 + m * u) → j1 (.int .i64 m) (.int .i64 x) w Q) :
    ∀ (d n : Nat) (x y r s : Int), s.toNat ≤ d → d < n → Inv a m x y r s → itr (fun _ _ _ _ _ => bot) (f32_b2 j1) n (.int .i64 m) (.int .i64 x) (.int .i64 y) (.int .i64 r) (.int .i64 s) w Q := by
  intro d
  induction d with
  | zero =>
    intro n x y r s hs hn h
    obtain ⟨n, rfl⟩ : ∃ m, n = m + 1 := ⟨n - 1, by omega⟩
    have hs0 : s = 0 := by have := h.s0; omega
    subst hs0
    exact inv_exit j1 k h n
  | succ d ih =>
    intro n x y r s hs hn h
    obtain ⟨n, rfl⟩ : ∃ m, n = m + 1 := ⟨n - 1, by omega⟩
    by_cases c : s = 0
    · subst c
      exact inv_exit j1 k h n
    · show f32_b2 j1 _ _ _ _ _ _ w Q
      unfold f32_b2
      have h0 := h.s0
      have ab := h.abs (by omega)
      have hr0 := h.r0
      have hrm := h.rm
      have hq0 : 0 ≤ r / s := Int.ediv_nonneg h.r0 (by omega)
      have hq3 : r / s ≤ r := by
        have : (r / s) * 1 ≤ (r / s) * s := Int.mul_le_mul_of_nonneg_left (by omega) hq0
        omega
      have e0 : IntKind.i64.wrap (r.tdiv s) = r / s := by rw [Int.tdiv_eq_ediv_of_nonneg hr0]; exact w64' (by omega) (by omega)
      have e1 : IntKind.i64.wrap (r / s * s) = r / s * s := w64' (by omega) (by omega)
      have e2 : IntKind.i64.wrap (r - r / s * s) = r - r / s * s := w64' (by omega) (by omega)
      have e3 : IntKind.i64.wrap (r / s * y) = r / s * y := w64' (by omega) (by omega)
      have e4 : IntKind.i64.wrap (x - r / s * y) = x - r / s * y := w64' (by omega) (by omega)
      simp only [↓reduceIte, ↓LL, LM, Value.cells, Nat.reduceAdd, Option.some.injEq, exists_eq_left', decide_true, decide_false, if_true, if_false, reduceCtorEq, cond_true, cond_false, ne_eq, c, not_false_eq_true, true_and, e0, e1, e2, e3, e4]
      refine ih n _ _ _ _ ?_ (by omega) (h.step (by omega))
      have := Int.emod_lt_of_pos r (show 0 < s by omega)
      have h3 := Int.emod_add_mul_ediv r s
      have h4 : s * (r / s) = r / s * s := Int.mul_comm _ _
      omega
theorem f32_s (a m : Int) (hm : 1 ≤ m) (hm2 : m ≤ 1099511627776) (hco : ∀ d : Int, d ∣ a → d ∣ m → d ∣ 1) (w : World) (Q : Value → World → Prop)
    (h : ∀ x u : Int, 0 ≤ x → x < m → a * x = 1 + m * u → Q (.int .i64 x) w) : f32 (.int .i64 a) (.int .i64 m) w Q := by
  unfold f32
  rw [cl_e]
  refine f27_s _ _ hm hm2 _ _ ?_
  rw [jn_e]
  have h0 := Int.emod_nonneg a (show m ≠ 0 by omega)
  have h1 := Int.emod_lt_of_pos a (show 0 < m by omega)
  have h2 := Int.emod_add_mul_ediv a m
  refine ⟨_, inv_loop _ hm hm2 ?_ m.toNat _ 1 0 (a % m) m (Nat.le_refl _) (Nat.lt_succ_self _) ⟨h0, by omega, by omega, by omega, ⟨a / m, (Int.mul_one a).trans h2.symm⟩, ⟨-1, by omega⟩, ?_, .inl ⟨by omega, by omega, by omega⟩⟩⟩
  · intro x hx
    obtain ⟨u, hu⟩ := hx
    unfold f32_j1
    rw [cl_e]
    refine f27_s _ _ hm hm2 _ _ ?_
    rw [rt_e]
    refine h _ (u - a * (x / m)) (Int.emod_nonneg _ (by omega)) (Int.emod_lt_of_pos _ (by omega)) ?_
    have h3 := Int.emod_add_mul_ediv x m
    generalize x % m = y at *
    generalize x / m = z at *
    grind
  · intro d d1 d2
    refine hco d ?_ d2
    rw [← h2]
    exact Int.dvd_add d1 (Int.dvd_mul_of_dvd_left d2)
end Go.Proofs.Ytnckcgpmidgggaa

namespace Go.Proofs.Ytnckcgpmidgggaa
open Sh RowKit

theorem build27 (a b : Int) (w : World) : (Instr.build 27 #[(0, .int .i64 a), (1, .int .i64 b)]).run Try.prog w = .ok (rdV a b) w := by
  kernel_rfl
theorem build27n (w : World) : (Instr.build 27 #[]).run Try.prog w = .ok (rdV 0 0) w := by
  kernel_rfl
theorem one_rd (E A : Int) : ∀ v ∈ (rdC E A).toList, v.oneCell' = true := by simp [rdC, Value.oneCell']
theorem f9_s (E A : Int) (w : World) (Q : Value → World → Prop) (h : ∀ w', Below w.heap.size w w' → Q (rdV E A) w') : f9 (rdV E A) w Q := by
  unfold f9
  simp only [↓bx_e, ↓al_e]
  rw [show (rdV E A).cells = rdC E A from rfl]
  have hp0 := blk_psh_new (w := w) (o := .cells (rdC E A) 23)
  have b0 := b_psh w (.cells (rdC E A) 23)
  generalize psh w (.cells (rdC E A) 23) = w1 at *
  have hq := blk_psh_new (w := w1) (o := .cells #[.int .i64 0, .int .i64 0] 27)
  have hb := b_psh w1 (.cells #[.int .i64 0, .int .i64 0] 27)
  have b1 := bt b0 hb
  have hp1 := stay hb hp0
  have c0 := cell_of_blk (n := 0) hp1
  have c1 := cell_of_blk (n := 1) hp1
  simp only [↓reduceIte, ↓LL, LM, Value.cells, Nat.reduceAdd, Option.some.injEq, exists_eq_left', decide_true, decide_false, if_true, if_false, reduceCtorEq, cond_true, cond_false, c0, c1, rdC]
  rw [smr_e]
  refine ⟨_, build27 E A _, ?_⟩
  refine stn_box (cs := rdC E A) hq rfl rfl (one_rd E A) fun w3 hw3 hu3 => ?_
  refine ldn_box hw3 rfl ?_
  rw [rt_e]
  exact h _ (b1.trans (hu3.below b0.size))

/-- what a meeting is -/
structure Met (Ea Aa Eb Ab E A : Int) : Prop where
  e1 : 1 ≤ E
  e2 : E ≤ 1099511627776
  a0 : 0 ≤ A
  a1 : A < E
  da : Ea ∣ E
  db : Eb ∣ E
  lcm : ∀ z, Ea ∣ z → Eb ∣ z → E ∣ z
  ra : Ea ∣ A - Aa
  rb : Eb ∣ A - Ab

theorem met_of {Ea Aa Eb Ab g p st c i u k A n m : Int} (hp : Ea = g * p) (hq : Eb = g * st) (hg : 1 ≤ g) (hc : Ab - Aa = g * c) (hi : p * i = 1 + st * u) (hk : k = c * i - st * n)
    (hA : A = Aa + Ea * k - Ea * st * m) (h0 : 0 ≤ A) (h1 : A < Ea * st) (hE : Ea * st ≤ 1099511627776) : Met Ea Aa Eb Ab (Ea * st) A := by
  refine ⟨by omega, hE, h0, h1, ⟨st, rfl⟩, ⟨p, by grind⟩, ?_, ⟨k - st * m, by grind⟩, ⟨c * u - p * n - p * m, by grind⟩⟩
  rintro z ⟨x, hx⟩ ⟨y, hy⟩
  -- g p x = g st y, so p x = st y, x = x p i - x st u = st (y i - x u)
  have h3 : p * x = st * y := by
    apply Int.eq_of_mul_eq_mul_left (a := g) (by omega)
    grind
  refine ⟨y * i - x * u, ?_⟩
  have : x = st * (y * i - x * u) := by grind
  rw [hx]
  grind

theorem aux1 {k st z x i y c : Int} (hk : k + st * z = x * i) (hm : x + st * y = c) : k = c * i - st * (y * i + z) := by grind
theorem f28_s (Ea Aa Eb Ab g p st c : Int) (hp : Ea = g * p) (hq : Eb = g * st) (hg : 1 ≤ g) (hc : Ab - Aa = g * c) (hEa : 1 ≤ Ea) (hEb : 1 ≤ Eb) (hle : Eb ≤ Ea) (hE : Ea * st ≤ 1099511627776)
    (hAa : 0 ≤ Aa) (hAa2 : Aa < Ea) (hAb : 0 ≤ Ab) (hAb2 : Ab < Eb) (hp1 : 1 ≤ p) (hst : 1 ≤ st) (hco : ∀ d : Int, d ∣ p → d ∣ st → d ∣ 1) (w : World) (Q : Value → World → Prop)
    (h : ∀ w' A, Met Ea Aa Eb Ab (Ea * st) A → Below w.heap.size w w' → Q (.tuple #[rdV (Ea * st) A, .bool true]) w') : f28 (rdV Ea Aa) (rdV Eb Ab) (.int .i64 g) (.int .i64 st) w Q := by
  have hEa2 : Ea ≤ 1099511627776 := by
    have : Ea * 1 ≤ Ea * st := Int.mul_le_mul_of_nonneg_left hst (by omega)
    omega
  have hstE : st ≤ Ea := by
    have : 1 * st ≤ g * st := Int.mul_le_mul_of_nonneg_right hg (by omega)
    omega
  have hpE : p ≤ Ea := by
    have : 1 * p ≤ g * p := Int.mul_le_mul_of_nonneg_right hg (by omega)
    omega
  have hss : st * st ≤ Ea * st := Int.mul_le_mul_of_nonneg_right hstE (by omega)
  have hcb : -1099511627776 ≤ c ∧ c ≤ 1099511627776 := by
    constructor
    · rcases Int.lt_or_le c 0 with z | z
      · have : g * c ≤ 1 * c := Int.mul_le_mul_of_nonpos_right hg (by omega)
        omega
      · omega
    · rcases Int.lt_or_le c 0 with z | z
      · omega
      · have : 1 * c ≤ g * c := Int.mul_le_mul_of_nonneg_right hg (by omega)
        omega
  unfold f28
  simp only [↓bx_e, ↓al_e]
  rw [show (rdV Ea Aa).cells = rdC Ea Aa from rfl, show (rdV Eb Ab).cells = rdC Eb Ab from rfl]
  have q0 := blk_psh_new (w := w) (o := .cells (rdC Ea Aa) 27)
  have b0 := b_psh w (.cells (rdC Ea Aa) 27)
  generalize psh w (.cells (rdC Ea Aa) 27) = w1 at *
  have r1 := blk_psh_new (w := w1) (o := .cells (rdC Eb Ab) 27)
  have hb := b_psh w1 (.cells (rdC Eb Ab) 27)
  have b1 := bt b0 hb
  have q1 := stay hb q0
  generalize psh w1 (.cells (rdC Eb Ab) 27) = w2 at *
  have s2 := blk_psh_new (w := w2) (o := .cells #[.int .i64 0, .int .i64 0] 27)
  have hb2 := b_psh w2 (.cells #[.int .i64 0, .int .i64 0] 27)
  have b2 : Below w.heap.size w (drw (psh w2 (.cells #[.int .i64 0, .int .i64 0] 27))) := Below_drw (bt b1 hb2)
  have q2 : (drw (psh w2 (.cells #[.int .i64 0, .int .i64 0] 27))).heap[w.heap.size]? = _ := (stay hb2 q1 :)
  have r2 : (drw (psh w2 (.cells #[.int .i64 0, .int .i64 0] 27))).heap[w1.heap.size]? = _ := (stay hb2 r1 :)
  have s2 : (drw (psh w2 (.cells #[.int .i64 0, .int .i64 0] 27))).heap[w2.heap.size]? = _ := s2
  rw [dr_q]
  have hsz : w.heap.size ≤ w2.heap.size := b1.size
  generalize drw (psh w2 (.cells #[.int .i64 0, .int .i64 0] 27)) = w3 at *
  have c40 := cell_of_blk (n := 0) q2
  have c41 := cell_of_blk (n := 1) q2
  have c51 := cell_of_blk (n := 1) r2
  have e1 : IntKind.i64.wrap (Ab - Aa) = g * c := by rw [← hc]; exact w64' (by omega) (by omega)
  have e2 : IntKind.i64.wrap ((g * c).tdiv g) = c := by rw [Int.mul_tdiv_cancel_left _ (by omega)]; exact w64' (by omega) (by omega)
  have e3 : IntKind.i64.wrap (Ea.tdiv g) = p := by rw [hp, Int.mul_tdiv_cancel_left _ (by omega)]; exact w64' (by omega) (by omega)
  have hgne : ¬ g = 0 := by omega
  have hstne : ¬ st = 0 := by omega
  simp only [↓reduceIte, ↓LL, LM, Value.cells, Nat.reduceAdd, Option.some.injEq, exists_eq_left', decide_true, decide_false, if_true, if_false, reduceCtorEq, cond_true, cond_false, c40, c41, c51, rdC, e1, ne_eq, hgne, hstne, not_false_eq_true, true_and, e2, e3]
  refine f27_s _ _ hst (by omega) _ _ ?_
  simp only [↓reduceIte, ↓LL, LM, Value.cells, Nat.reduceAdd, Option.some.injEq, exists_eq_left', decide_true, decide_false, if_true, if_false, reduceCtorEq, cond_true, cond_false, Kld_e, c40, rdC, true_and]
  refine f32_s _ _ hst (by omega) hco _ _ fun i u hi0 hi1 hi => ?_
  have hm0 := Int.emod_nonneg c (show st ≠ 0 by omega)
  have hm1 := Int.emod_lt_of_pos c (show 0 < st by omega)
  have hm2 := Int.emod_add_mul_ediv c st
  have hpr0 : 0 ≤ c % st * i := Int.mul_nonneg hm0 hi0
  have hpr1 : c % st * i ≤ st * st := Int.mul_le_mul (by omega) (by omega) hi0 (by omega)
  have e4 : IntKind.i64.wrap (c % st * i) = c % st * i := w64' (by omega) (by omega)
  have hk := Int.emod_add_mul_ediv (c % st * i) st
  have hk0 := Int.emod_nonneg (c % st * i) (show st ≠ 0 by omega)
  have hk1 := Int.emod_lt_of_pos (c % st * i) (show 0 < st by omega)
  have e5 : (c % st * i).tmod st = c % st * i % st := Int.tmod_eq_emod_of_nonneg hpr0
  simp only [↓reduceIte, ↓LL, LM, Value.cells, Nat.reduceAdd, Option.some.injEq, exists_eq_left', decide_true, decide_false, if_true, if_false, reduceCtorEq, cond_true, cond_false, ne_eq, hstne, not_false_eq_true, true_and, e4, e5]
  obtain ⟨k, hkk⟩ : ∃ k, k = c % st * i % st := ⟨_, rfl⟩
  rw [← hkk] at hk hk0 hk1 ⊢
  have hEs : 0 ≤ Ea * st := Int.mul_nonneg (by omega) (by omega)
  have e6 : IntKind.i64.wrap (Ea * st) = Ea * st := w64' (by omega) (by omega)
  have hEk0 : 0 ≤ Ea * k := Int.mul_nonneg (by omega) hk0
  have hEk1 : Ea * k ≤ Ea * st := Int.mul_le_mul_of_nonneg_left (by omega) (by omega)
  have e7 : IntKind.i64.wrap (Ea * k) = Ea * k := w64' (by omega) (by omega)
  have e8 : IntKind.i64.wrap (Aa + Ea * k) = Aa + Ea * k := w64' (by omega) (by omega)
  simp only [↓reduceIte, ↓LL, LM, Value.cells, Nat.reduceAdd, Option.some.injEq, exists_eq_left', decide_true, decide_false, if_true, if_false, reduceCtorEq, cond_true, cond_false, c40, c41, rdC, e6, e7, e8]
  have hE1 : 1 ≤ Ea * st := by
    have : 1 * 1 ≤ Ea * st := Int.mul_le_mul hEa hst (by omega) (by omega)
    omega
  refine f27_s _ _ hE1 hE _ _ ?_
  rw [smr_e]
  refine ⟨_, build27 _ _ _, ?_⟩
  refine stn_box (cs := rdC _ _) s2 rfl rfl (one_rd _ _) fun w4 hw4 hu4 => ?_
  refine ldn_box hw4 rfl ?_
  rw [rt_e]
  refine h _ _ ?_ (b2.trans (hu4.below hsz))
  have hA0 := Int.emod_nonneg (Aa + Ea * k) (show Ea * st ≠ 0 by omega)
  have hA1 := Int.emod_lt_of_pos (Aa + Ea * k) (show 0 < Ea * st by omega)
  have hA2 := Int.emod_add_mul_ediv (Aa + Ea * k) (Ea * st)
  refine met_of (k := k) (i := i) (u := u) (c := c) (n := (c / st) * i + (c % st * i / st)) (m := (Aa + Ea * k) / (Ea * st)) hp hq hg hc hi ?_ ?_ hA0 hA1 hE
  · exact aux1 hk hm2
  · omega
end Go.Proofs.Ytnckcgpmidgggaa
