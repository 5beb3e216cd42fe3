/- The first layer of the shallow reading of Go code: environments as functions, predicate transformers, and the laws that carry a walk over a code's text. -/
import Derived.Shelf.SlGeneric
import Derived.Shelf.SlIterI.Nil
import Derived.Shelf.SortM.Plain
import Derived.Shelf.SortM.SortNone
import Derived.Ground.GgzProg
import Derived.Ground.SlgmProg
import Derived.Test.YtiajdaagamhbnaaProg
import Derived.Orders
import Derived.OrdersHeld
import Derived.KernelRfl
import Derived.Laws.Sem
import Derived.Laws.Cells
import Derived.Laws.Strings
import Derived.Below
import Derived.Laws.AppendOwn
import Derived.Laws.OwnMore
set_option linter.unusedVariables false
set_option linter.unusedSimpArgs false
set_option linter.unusedSectionVars false
/-
  DERIVED: THE SHELF's CONTRACTS AT THIS DUMP, IN PLAIN WORDS (tools/lay-plain.mjs out of 'TryKeptZ.lean', which tools/lay-shelf.mjs wrote): THE SAME DECLARATIONS UNDER THE SAME NAMES: 'import', 'namespace', 'open', 'def', 'theorem' AND NOTHING ELSE: no command of the shelf's: FOR A HAND-IN. Each laying: the table of numbers ('.._ren') and one theorem, a field a fact of the dump's own or the kernel's comparison; each contract: ONE APPLICATION.
-/
namespace Go.Proofs
open Go.Shelf
def Ytiajdaagamhbnaa.keysA_ren : Go.Shelf.Ren := ⟨fun | 7 => 26 | 10 => 46 | n => n, fun | 23 => 58 | 26 => 3 | 3 => 28 | 28 => 62 | 0 => 0 | 27 => 61 | 33 => 82 | 4 => 4 | n => n, fun | n => n⟩
theorem Ytiajdaagamhbnaa.keysA : Go.Proofs.SlLaysZI.n7 Try.prog Ytiajdaagamhbnaa.keysA_ren := {
  mixed := by kernel_rfl
  f7 := ⟨Try.f26.name, by decide, Try.func26.trans (congrArg some (by kernel_rfl))⟩
  f10 := ⟨Try.f46.name, by decide, Try.func46.trans (congrArg some (by kernel_rfl))⟩
  t0 := Try.underlying0
  a0 := Try.isAgg0
  z0 := Try.sizeOf0
  v0 := Try.zeroValue0
  t4 := Try.underlying4
  a4 := Try.isAgg4
  z4 := Try.sizeOf4
  v4 := Try.zeroValue4
  t23 := Try.underlying58
  a23 := Try.isAgg58
  z23 := Try.sizeOf58
  v23 := Try.zeroValue58
  t26 := Try.underlying3
  a26 := Try.isAgg3
  z26 := Try.sizeOf3
  v26 := Try.zeroValue3
  t27 := Try.underlying61
  a27 := Try.isAgg61
  z27 := Try.sizeOf61
  v27 := Try.zeroValue61
  t28 := Try.underlying62
  a28 := Try.isAgg62
  z28 := Try.sizeOf62
  v28 := Try.zeroValue62
  t33 := Try.underlying82
  a33 := Try.isAgg82
  z33 := Try.sizeOf82
  v33 := Try.zeroValue82 }
def Ytiajdaagamhbnaa.sortedA_ren : Go.Shelf.Ren := ⟨fun | 6 => 25 | 8 => 44 | 9 => 45 | 11 => 54 | 13 => 56 | 12 => 55 | 23 => 71 | 24 => 72 | 14 => 62 | 15 => 63 | 16 => 64 | 17 => 65 | 18 => 66 | 19 => 67 | 20 => 68 | 21 => 69 | 22 => 70 | 25 => 75 | 26 => 76 | 27 => 77 | 28 => 78 | 29 => 79 | 30 => 51 | 31 => 82 | n => n, fun | 26 => 3 | 28 => 62 | 24 => 34 | 0 => 0 | 3 => 3 | 37 => 92 | 48 => 108 | 50 => 110 | 4 => 4 | 40 => 100 | 39 => 99 | 45 => 105 | 5 => 5 | 9 => 9 | 51 => 111 | 55 => 64 | 57 => 116 | 58 => 117 | 33 => 82 | n => n, fun | n => n⟩
theorem Ytiajdaagamhbnaa.sortedA : Go.Proofs.SlLaysZI.n6 Try.prog Ytiajdaagamhbnaa.sortedA_ren := {
  mixed := by kernel_rfl
  f6 := ⟨Try.f25.name, by decide, Try.func25.trans (congrArg some (by kernel_rfl))⟩
  f8 := ⟨Try.f44.name, by decide, Try.func44.trans (congrArg some (by kernel_rfl))⟩
  f11 := ⟨Try.f54.name, by decide, Try.func54.trans (congrArg some (by kernel_rfl))⟩
  t0 := Try.underlying0
  a0 := Try.isAgg0
  z0 := Try.sizeOf0
  v0 := Try.zeroValue0
  t24 := Try.underlying34
  a24 := Try.isAgg34
  z24 := Try.sizeOf34
  v24 := Try.zeroValue34
  t26 := Try.underlying3
  a26 := Try.isAgg3
  z26 := Try.sizeOf3
  v26 := Try.zeroValue3
  t28 := Try.underlying62
  a28 := Try.isAgg62
  z28 := Try.sizeOf62
  v28 := Try.zeroValue62
  i26 := by kernel_rfl }
def Ytiajdaagamhbnaa.sortA_ren : Go.Shelf.Ren := ⟨fun | 5 => 45 | 8 => 56 | 7 => 55 | 19 => 71 | 20 => 72 | 10 => 62 | 11 => 63 | 12 => 64 | 13 => 65 | 14 => 66 | 15 => 67 | 16 => 68 | 17 => 69 | 18 => 70 | 30 => 75 | 31 => 76 | 32 => 77 | 33 => 78 | 34 => 79 | 35 => 51 | 40 => 82 | n => n, fun | 23 => 34 | 25 => 3 | 3 => 3 | 32 => 92 | 22 => 34 | 0 => 0 | 44 => 108 | 46 => 110 | 4 => 4 | 36 => 100 | 35 => 99 | 41 => 105 | 5 => 5 | 9 => 9 | 53 => 111 | 57 => 64 | 63 => 116 | 64 => 117 | n => n, fun | n => n⟩
theorem Ytiajdaagamhbnaa.sortA : Go.Proofs.SlLaysM.n5 Try.prog Ytiajdaagamhbnaa.sortA_ren := {
  mixed := by kernel_rfl
  f5 := ⟨Try.f45.name, by decide, Try.func45.trans (congrArg some (by kernel_rfl))⟩
  f7 := ⟨Try.f55.name, by decide, Try.func55.trans (congrArg some (by kernel_rfl))⟩
  f8 := Try.func56.trans (congrArg some (by kernel_rfl))
  f10 := ⟨Try.f62.name, by decide, Try.func62.trans (congrArg some (by kernel_rfl))⟩
  f11 := ⟨Try.f63.name, by decide, Try.func63.trans (congrArg some (by kernel_rfl))⟩
  f12 := ⟨Try.f64.name, by decide, Try.func64.trans (congrArg some (by kernel_rfl))⟩
  f13 := ⟨Try.f65.name, by decide, Try.func65.trans (congrArg some (by kernel_rfl))⟩
  f14 := ⟨Try.f66.name, by decide, Try.func66.trans (congrArg some (by kernel_rfl))⟩
  f15 := ⟨Try.f67.name, by decide, Try.func67.trans (congrArg some (by kernel_rfl))⟩
  f16 := ⟨Try.f68.name, by decide, Try.func68.trans (congrArg some (by kernel_rfl))⟩
  f17 := ⟨Try.f69.name, by decide, Try.func69.trans (congrArg some (by kernel_rfl))⟩
  f18 := ⟨Try.f70.name, by decide, Try.func70.trans (congrArg some (by kernel_rfl))⟩
  f19 := Try.func71.trans (congrArg some (by kernel_rfl))
  f20 := Try.func72.trans (congrArg some (by kernel_rfl))
  f30 := ⟨Try.f75.name, by decide, Try.func75.trans (congrArg some (by kernel_rfl))⟩
  f31 := Try.func76.trans (congrArg some (by kernel_rfl))
  f32 := Try.func77.trans (congrArg some (by kernel_rfl))
  f33 := ⟨Try.f78.name, by decide, Try.func78.trans (congrArg some (by kernel_rfl))⟩
  f34 := ⟨Try.f79.name, by decide, Try.func79.trans (congrArg some (by kernel_rfl))⟩
  f35 := ⟨Try.f51.name, by decide, Try.func51.trans (congrArg some (by kernel_rfl))⟩
  f40 := ⟨Try.f82.name, by decide, Try.func82.trans (congrArg some (by kernel_rfl))⟩
  t0 := Try.underlying0
  a0 := Try.isAgg0
  z0 := Try.sizeOf0
  v0 := Try.zeroValue0
  t3 := Try.underlying3
  a3 := Try.isAgg3
  z3 := Try.sizeOf3
  v3 := Try.zeroValue3
  t4 := Try.underlying4
  a4 := Try.isAgg4
  z4 := Try.sizeOf4
  v4 := Try.zeroValue4
  t5 := Try.underlying5
  a5 := Try.isAgg5
  z5 := Try.sizeOf5
  v5 := Try.zeroValue5
  t9 := Try.underlying9
  a9 := Try.isAgg9
  z9 := Try.sizeOf9
  v9 := Try.zeroValue9
  t22 := Try.underlying34
  a22 := Try.isAgg34
  z22 := Try.sizeOf34
  v22 := Try.zeroValue34
  t23 := Try.underlying34
  a23 := Try.isAgg34
  z23 := Try.sizeOf34
  v23 := Try.zeroValue34
  t25 := Try.underlying3
  a25 := Try.isAgg3
  z25 := Try.sizeOf3
  v25 := Try.zeroValue3
  t32 := Try.underlying92
  a32 := Try.isAgg92
  z32 := Try.sizeOf92
  v32 := Try.zeroValue92
  t35 := Try.underlying99
  a35 := Try.isAgg99
  z35 := Try.sizeOf99
  v35 := Try.zeroValue99
  t36 := Try.underlying100
  a36 := Try.isAgg100
  z36 := Try.sizeOf100
  v36 := Try.zeroValue100
  t41 := Try.underlying105
  a41 := Try.isAgg105
  z41 := Try.sizeOf105
  v41 := Try.zeroValue105
  t44 := Try.underlying108
  a44 := Try.isAgg108
  z44 := Try.sizeOf108
  v44 := Try.zeroValue108
  t46 := Try.underlying110
  a46 := Try.isAgg110
  z46 := Try.sizeOf110
  v46 := Try.zeroValue110
  t53 := Try.underlying111
  a53 := Try.isAgg111
  z53 := Try.sizeOf111
  v53 := Try.zeroValue111
  t57 := Try.underlying64
  a57 := Try.isAgg64
  z57 := Try.sizeOf64
  v57 := Try.zeroValue64
  t63 := Try.underlying116
  a63 := Try.isAgg116
  z63 := Try.sizeOf116
  v63 := Try.zeroValue116
  t64 := Try.underlying117
  a64 := Try.isAgg117
  z64 := Try.sizeOf117
  v64 := Try.zeroValue117 }
end Go.Proofs

namespace Go.Proofs.Ytiajdaagamhbnaa
namespace Sh

/-- A piece of code, read as: what must hold so that from this world it comes to a value and a world of which Q holds. -/
abbrev M := World → (Value → World → Prop) → Prop

def upd (ρ : Nat → Value) (d : Nat) (v : Value) : Nat → Value := fun t => bif Nat.beq t d then v else ρ t
def act (N : Nat) (ρ : Nat → Value) : Act := { tmps := Array.ofFn (n := N) fun i => ρ i, defers := [] }
def ini (l : List Value) : Nat → Value := fun t => l.getD t undef
def opv (N : Nat) (ρ : Nat → Value) : Operand → Value
  | .tmp t => bif Nat.blt t N then ρ t else undef
  | .const v => v
  | .global g => .pointer (some ⟨g, 0, none⟩)
  | .func f => .func (.func f) #[] #[]

section
variable {P : Program} {N : Nat} {ρ : Nat → Value} {w : World}

theorem put_act (d : Nat) (v : Value) : (act N ρ).put (some d) v = act N (upd ρ d v) := by
  simp only [act, Act.put]
  congr 1
  apply Array.ext
  · simp
  · intro i h1 h2
    simp only [Array.size_setIfInBounds, Array.size_ofFn] at h1
    by_cases e : d = i
    · subst e
      simp [upd]
    · rw [Array.getElem_setIfInBounds_ne (by simpa using h1) e]
      simp only [Array.getElem_ofFn]
      have : Nat.beq i d = false := by
        cases hb : Nat.beq i d with
        | false => rfl
        | true => exact absurd (Nat.eq_of_beq_eq_true hb).symm e
      simp [upd, this]

theorem tmps_act (t : Nat) : (act N ρ).tmps.getD t undef = bif Nat.blt t N then ρ t else undef := by
  simp only [act]
  by_cases h : t < N
  · have : Nat.blt t N = true := by simpa using h
    simp [this, Array.getD, h]
  · have : Nat.blt t N = false := by
      cases hb : Nat.blt t N with
      | false => rfl
      | true => exact absurd (by simpa using hb) h
    simp [this, Array.getD, h]

theorem eval_act : (act N ρ).eval = opv N ρ := by
  funext x
  cases x with
  | tmp t => exact tmps_act t
  | _ => rfl

theorem ini_act {l : List Value} {n : Nat} (h : l.length ≤ n) : ({ tmps := l.toArray ++ Array.replicate (n - l.length) undef, defers := [] } : Act) = act n (ini l) := by
  simp only [act]
  congr 1
  apply Array.ext
  · simp; omega
  · intro i h1 h2
    simp at h1 h2
    simp only [Array.getElem_ofFn, ini]
    by_cases e : i < l.length
    · rw [Array.getElem_append_left (by simpa using e)]
      simp [List.getD, e]
    · rw [Array.getElem_append_right (by simpa using Nat.le_of_not_lt e)]
      simp [List.getD, e]

/-- What a call comes to: it returns, and of its value and world this holds. -/
def Rt (Q : Value → World → Prop) : Ending → World → Prop
  | .returned v, w => Q v w
  | _, _ => False

theorem calls_of {f : FuncId} {fn : Func} {c : Code} {l : List Value} {Q : Value → World → Prop} (hf : P.funcs[f]? = some fn) (hb : fn.body = some c) (hn : fn.ntmps = N) (hl : l.length ≤ N)
    (h : c.wp P (bodyPost P fn (Rt Q)) (act N (ini l)) w) : Calls P f l.toArray w (Rt Q) := by
  refine calls_of_wp hf hb ?_
  rw [hn, show l.toArray.size = l.length from by simp, ini_act hl]
  exact h

/-! ### regions whose order is the text's -/
def wpL (P : Program) (all : Array Oper) (Q : Exit → Act → World → Prop) : List Oper → Act → World → Prop
  | [], a, w => Q .normal a w
  | o :: r, a, w => if Region.wanted o (yielded all a.tmps) then o.wp P a w (wpL P all Q r) Q else wpL P all Q r (a.put o.dst undef) w

theorem wpOps_of_wpL {all : Array Oper} {Q : Exit → Act → World → Prop} : ∀ (l : List Oper) (k : Nat) (a : Act) (w : World), (∀ j, l[j]? = all[k + j]?) → wpL P all Q l a w → wpOps P all Q (List.range' k l.length) a w := by
  intro l
  induction l with
  | nil => intro k a w _ h; exact h
  | cons o l ih =>
    intro k a w hl h
    have h0 : all[k]? = some o := by simpa using (hl 0).symm
    simp only [List.length_cons, List.range'_succ, wpOps, h0]
    have hn : ∀ j, l[j]? = all[k + 1 + j]? := fun j => by have := hl (j + 1); simpa [Nat.add_assoc, Nat.add_comm 1 j] using this
    simp only [wpL] at h
    split
    · rename_i hw
      rw [if_pos hw] at h
      exact .inl (Oper.wp_mono (fun a w => ih (k + 1) a w hn) h)
    · rename_i hw
      rw [if_neg hw] at h
      exact ih (k + 1) _ _ hn h

theorem L_region {id : Nat} {l : List Oper} {Q : Exit → Act → World → Prop} {a : Act} (h : wpL P l.toArray Q l a w) : (Code.region id l.toArray false).wp P Q a w := by
  refine wp_region ?_
  have := wpOps_of_wpL (P := P) (all := l.toArray) l 0 a w (by simp) h
  simpa [List.range_eq_range'] using this

theorem L_nil {all : Array Oper} {Q : Exit → Act → World → Prop} {a : Act} (h : Q .normal a w) : wpL P all Q [] a w := h

end
end Sh
end Go.Proofs.Ytiajdaagamhbnaa

namespace Go.Proofs.Ytiajdaagamhbnaa
namespace Sh
/-- One block more. -/
def psh (w : World) (o : Obj) : World := { w with heap := w.heap.push o }
/-- One draw more. -/
def drw (w : World) : World := { w with drawn := w.drawn + 1 }
/-- A block's new content. -/
def sb (w : World) (b : Nat) (o : Obj) : World := { w with heap := w.heap.setIfInBounds b o }

/-! closed looks into the tables -/
def isSc (P : Program) (t : TypeId) : Bool := match P.underlying t with | some (.struct _) | some (.array _ _) | none => false | _ => true
def isAg (P : Program) (t : TypeId) (n : Nat) : Bool := (match P.underlying t with | some (.struct _) | some (.array _ _) => true | _ => false) && ((P.info? t).map (·.size) == some n)
def isOne (P : Program) (t : TypeId) : Bool := (P.info? t).map (·.size) == some 1
def fOff (P : Program) (s f k : Nat) : Bool := match P.underlying s with
  | some (.struct fs) => match fs[f]? with
    | some fd => fd.offset == k && (match P.info? fd.type with | some i => i.size != 0 | none => false)
    | none => false
  | _ => false
def slE (P : Program) (t n : Nat) : Bool := match P.underlying t with | some (.slice e) => (P.info? e).map (·.size) == some n | _ => false
def isInt (P : Program) (t : TypeId) (k : IntKind) : Bool := match P.underlying t with | some (.int j) => j == k | _ => false
def isSl (P : Program) (t : TypeId) : Bool := match P.underlying t with | some (.slice _) => true | _ => false
def zeroIs (P : Program) (t : TypeId) (z : Value) : Prop := (P.info? t).bind (·.zero) = some z

/-! the operations -/
def okNil : Value → Bool
  | .pointer none | .nilIface | .nilFunc => false
  | .func (.method _) _ _ => false
  | _ => true
def nc (x : Value) (K : Value → M) : M := fun w Q => okNil x = true ∧ K x w Q
def fa (k : Nat) (x : Value) (K : Value → M) : M := fun w Q => ∃ a, x = .pointer (some a) ∧ K (.pointer (some (a.add k))) w Q
def ld (x : Value) (K : Value → M) : M := fun w Q => ∃ a v, x = .pointer (some a) ∧ w.cell? a = some v ∧ K v w Q
def rds (w : World) (a : Addr) (cs : Array Value) : Prop := ∀ j v, cs[j]? = some v → w.cell? (a.add j) = some v
def ldn (n : Nat) (x : Value) (K : Value → M) : M := fun w Q => ∃ a cs, x = .pointer (some a) ∧ cs.size = n ∧ rds w a cs ∧ K (.agg cs) w Q
def st (x v : Value) (K : M) : M := fun w Q => ∃ a, x = .pointer (some a) ∧ (w.cell? a).isSome = true ∧ w.frozen? a = false ∧ v.oneCell' = true ∧ K (w.setCell a v) Q
def sts : World → Addr → List Value → Nat → Option World
  | w, _, [], _ => some w
  | w, a, v :: r, i => if (w.cell? (a.add i)).isSome && !(w.frozen? (a.add i)) && v.oneCell' then sts (w.setCell (a.add i) v) a r (i + 1) else none
def stn (n : Nat) (x v : Value) (K : M) : M := fun w Q => ∃ a cs w', x = .pointer (some a) ∧ v = .agg cs ∧ cs.size = n ∧ sts w a cs.toList 0 = some w' ∧ K w' Q
def ad (k : IntKind) (x y : Value) (K : Value → M) : M := fun w Q => ∃ a b, x = .int k a ∧ y = .int k b ∧ K (.int k (k.wrap (a + b))) w Q
def su (k : IntKind) (x y : Value) (K : Value → M) : M := fun w Q => ∃ a b, x = .int k a ∧ y = .int k b ∧ K (.int k (k.wrap (a - b))) w Q
def mu (k : IntKind) (x y : Value) (K : Value → M) : M := fun w Q => ∃ a b, x = .int k a ∧ y = .int k b ∧ K (.int k (k.wrap (a * b))) w Q
def qu (k : IntKind) (x y : Value) (K : Value → M) : M := fun w Q => ∃ a b, x = .int k a ∧ y = .int k b ∧ b ≠ 0 ∧ K (.int k (k.wrap (a.tdiv b))) w Q
def re (k : IntKind) (x y : Value) (K : Value → M) : M := fun w Q => ∃ a b, x = .int k a ∧ y = .int k b ∧ b ≠ 0 ∧ K (.int k (a.tmod b)) w Q
def lt (k : IntKind) (x y : Value) (K : Value → M) : M := fun w Q => ∃ a b, x = .int k a ∧ y = .int k b ∧ K (.bool (decide (a < b))) w Q
def le (k : IntKind) (x y : Value) (K : Value → M) : M := fun w Q => ∃ a b, x = .int k a ∧ y = .int k b ∧ K (.bool (decide (a ≤ b))) w Q
def gt (k : IntKind) (x y : Value) (K : Value → M) : M := fun w Q => ∃ a b, x = .int k a ∧ y = .int k b ∧ K (.bool (decide (b < a))) w Q
def ge (k : IntKind) (x y : Value) (K : Value → M) : M := fun w Q => ∃ a b, x = .int k a ∧ y = .int k b ∧ K (.bool (decide (b ≤ a))) w Q
def eqi (k : IntKind) (x y : Value) (K : Value → M) : M := fun w Q => ∃ a b, x = .int k a ∧ y = .int k b ∧ K (.bool (decide (a = b))) w Q
def nei (k : IntKind) (x y : Value) (K : Value → M) : M := fun w Q => ∃ a b, x = .int k a ∧ y = .int k b ∧ K (.bool (decide (a ≠ b))) w Q
def bws (op : BinOp) (k : IntKind) (x y : Value) (K : Value → M) : M := fun w Q => ∃ a b v, x = .int k a ∧ y = .int k b ∧ (∀ P : Program, ∀ w : World, (Op.intBits op k a b).run P w = .ok v w) ∧ K v w Q
def shl (k j : IntKind) (x y : Value) (K : Value → M) : M := fun w Q => ∃ a b, x = .int k a ∧ y = .int j b ∧ 0 ≤ b ∧ K (.int k (k.wrap (a * 2 ^ (min b.toNat k.bits)))) w Q
def shr (k j : IntKind) (x y : Value) (K : Value → M) : M := fun w Q => ∃ a b, x = .int k a ∧ y = .int j b ∧ 0 ≤ b ∧ K (.int k (a.fdiv (2 ^ (min b.toNat k.bits)))) w Q
def cat (x y : Value) (K : Value → M) : M := fun w Q => ∃ a b, x = .string a ∧ y = .string b ∧ a.size + b.size ≤ 9223372036854775807 ∧ K (.string (a ++ b)) w Q
def eqs (x y : Value) (K : Value → M) : M := fun w Q => ∃ a b, x = .string a ∧ y = .string b ∧ K (.bool (decide (a = b))) w Q
def nes (x y : Value) (K : Value → M) : M := fun w Q => ∃ a b, x = .string a ∧ y = .string b ∧ K (.bool (decide (a ≠ b))) w Q
def lts (x y : Value) (K : Value → M) : M := fun w Q => ∃ a b, x = .string a ∧ y = .string b ∧ K (.bool (Op.bytesLess a.toList b.toList)) w Q
def gts (x y : Value) (K : Value → M) : M := fun w Q => ∃ a b, x = .string a ∧ y = .string b ∧ K (.bool !(Op.bytesLess a.toList b.toList || a.toList == b.toList)) w Q
def eqb (x y : Value) (K : Value → M) : M := fun w Q => ∃ a b, x = .bool a ∧ y = .bool b ∧ K (.bool (a == b)) w Q
def neb (x y : Value) (K : Value → M) : M := fun w Q => ∃ a b, x = .bool a ∧ y = .bool b ∧ K (.bool !(a == b)) w Q
def nt (x : Value) (K : Value → M) : M := fun w Q => ∃ b, x = .bool b ∧ K (.bool !b) w Q
def pk (c x y : Value) (K : Value → M) : M := fun w Q => ∃ b, c = .bool b ∧ K (bif b then x else y) w Q
def cv (k : IntKind) (x : Value) (K : Value → M) : M := fun w Q => ∃ j a, x = .int j a ∧ K (.int k (k.wrap a)) w Q
def al (t : TypeId) (cs : Array Value) (K : Value → M) : M := fun w Q => K (.pointer (some ⟨w.heap.size, 0, none⟩)) (psh w (.cells cs t)) Q
def bx (t : TypeId) (v : Value) (K : Value → M) : M := fun w Q => K (.pointer (some ⟨w.heap.size, 0, none⟩)) (psh w (.cells v.cells t)) Q
def ex (i : Nat) (x : Value) (K : Value → M) : M := fun w Q => ∃ vs v, x = .tuple vs ∧ vs[i]? = some v ∧ K v w Q
def fld (off : Nat) (x : Value) (K : Value → M) : M := fun w Q => ∃ cs v, x = .agg cs ∧ cs[off]? = some v ∧ K v w Q
def fldn (off n : Nat) (x : Value) (K : Value → M) : M := fun w Q => ∃ cs, x = .agg cs ∧ K (.agg (cs.extract off (off + n))) w Q
def lnl (x : Value) (K : Value → M) : M := fun w Q => ∃ a l c, x = .slice a l c ∧ K (.int .i64 l) w Q
def lns (x : Value) (K : Value → M) : M := fun w Q => ∃ s, x = .string s ∧ K (.int .i64 s.size) w Q
def ia (n : Nat) (x i : Value) (K : Value → M) : M := fun w Q => ∃ a l c k j, x = .slice (some a) l c ∧ i = .int k j ∧ 0 ≤ j ∧ j < l ∧ K (.pointer (some (a.add (j.toNat * n)))) w Q
def iaa (len n : Nat) (x i : Value) (K : Value → M) : M := fun w Q => ∃ a k j, x = .pointer (some a) ∧ i = .int k j ∧ 0 ≤ j ∧ j < len ∧ K (.pointer (some (a.add (j.toNat * n)))) w Q
def ixs (x i : Value) (K : Value → M) : M := fun w Q => ∃ s k j b, x = .string s ∧ i = .int k j ∧ 0 ≤ j ∧ s[j.toNat]? = some b ∧ K (.int .u8 (b.toNat : Int)) w Q
def bnd (o : Option Value) (d m : Nat) (l : Nat) : Prop := match o with | none => l = d | some v => ∃ k j, v = .int k j ∧ 0 ≤ j ∧ j ≤ m ∧ l = j.toNat
def sls (x : Value) (lo hi : Option Value) (K : Value → M) : M := fun w Q => ∃ s l h, x = .string s ∧ bnd hi s.size s.size h ∧ bnd lo 0 h l ∧ K (.string (s.extract l h)) w Q
def sll (n : Nat) (x : Value) (lo hi : Option Value) (K : Value → M) : M := fun w Q => ∃ a len cap l h, x = .slice a len cap ∧ bnd hi len cap h ∧ bnd lo 0 h l ∧ K (.slice (if cap = l then a else a.map (·.add (l * n))) (h - l) (cap - l)) w Q
def sla (len n : Nat) (x : Value) (lo hi : Option Value) (K : Value → M) : M := fun w Q => ∃ a l h, x = .pointer (some a) ∧ bnd hi len len h ∧ bnd lo 0 h l ∧ K (.slice (some (if len = l then a else a.add (l * n))) (h - l) (len - l)) w Q
def mif (t : TypeId) (x : Value) (K : Value → M) : M := fun w Q => K (.iface t x) w Q
def mnm (x y : Value) (K : Value → M) : M := fun w Q => ∃ k a b, x = .int k a ∧ y = .int k b ∧ K (.int k (if b < a then b else a)) w Q
def mxm (x y : Value) (K : Value → M) : M := fun w Q => ∃ k a b, x = .int k a ∧ y = .int k b ∧ K (.int k (if a < b then b else a)) w Q
def mm (K : Value → M) : M := fun w Q => K (.map (some w.heap.size)) (psh w (.map #[] 0)) Q
def asrt (t : TypeId) (x : Value) (K : Value → M) : M := fun w Q => ∃ v, x = .iface t v ∧ K v w Q
/-- Any operation that yields a value, by its own run. -/
def sm (P : Program) (s : Sem Value) (K : Value → M) : M := fun w Q => ∃ v w', s.run P w = .ok v w' ∧ K v w' Q
def smu (P : Program) (s : Sem Unit) (K : M) : M := fun w Q => ∃ w', s.run P w = .ok () w' ∧ K w' Q
/-- A call that another predicate transformer tells. -/
def cl (f : M) (K : Value → M) : M := fun w Q => f w (fun v w' => K v w' Q)
def cc (P : Program) (f : FuncId) (args : Array Value) (K : Value → M) : M := fun w Q => Calls P f args w (Rt (fun v w' => K v w' Q))
/-- A call of a function value. -/
def cf (P : Program) (x : Value) (args : Array Value) (K : Value → M) : M := fun w Q => ∃ f z cap, x = .func (.func f) z cap ∧ (callFunc f (z ++ args ++ cap)).run P w = .ok (.enter f (z ++ args ++ cap)) w ∧ Calls P f (z ++ args ++ cap) w (Rt (fun v w' => K v w' Q))
/-- A call through an interface. -/
def ci (P : Program) (x : Value) (m : String) (args : Array Value) (K : Value → M) : M := fun w Q => ∃ f gs w1, (callMethod x m args).run P w = .ok (.enter f gs) w1 ∧ Calls P f gs w1 (Rt (fun v w' => K v w' Q))
def cnd (c : Value) (A B : M) : M := fun w Q => ∃ b, c = .bool b ∧ (bif b then A w Q else B w Q)
def gdB (v : Value) (want : Bool) : Bool := match v with | .bool b => b == want | _ => false
def gd (v : Value) (want : Bool) (A : (Value → M) → M) (K : Value → M) : M := fun w Q => bif gdB v want then A K w Q else K undef w Q
def gdu (v : Value) (want : Bool) (A : M → M) (K : M) : M := fun w Q => bif gdB v want then A K w Q else K w Q
def rt (v : Value) : M := fun w Q => Q v w
def bot : M := fun _ _ => False
end Sh
end Go.Proofs.Ytiajdaagamhbnaa

namespace Go.Proofs.Ytiajdaagamhbnaa
namespace Sh
section
variable {P : Program} {N : Nat} {ρ : Nat → Value} {w : World} {d : Nat} {ty : TypeId} {pos : String} {aft : Array Edge} {g : Option (Nat × Bool)}
  {next : Act → World → Prop} {Qx : Exit → Act → World → Prop} {Qm : Value → World → Prop} {K : Value → M} {K0 : M}

theorem wp_run {op : Op} {v : Value} {w' : World} (hr : (execOp (opv N ρ) ⟨some d, op, ty, pos, aft, g⟩).run P w = .ok (.value v) w')
    (h : next (act N (upd ρ d v)) w') : Oper.wp P ⟨some d, op, ty, pos, aft, g⟩ (act N ρ) w next Qx := by
  simp only [Oper.wp, eval_act, hr, Oper.upon, put_act]; exact h
theorem wp_run0 {op : Op} {w' : World} (hr : (execOp (opv N ρ) ⟨none, op, ty, pos, aft, g⟩).run P w = .ok .skip w')
    (h : next (act N ρ) w') : Oper.wp P ⟨none, op, ty, pos, aft, g⟩ (act N ρ) w next Qx := by
  simp only [Oper.wp, eval_act, hr, Oper.upon, Act.put]; exact h
/-- a value that nobody takes up -/
theorem wp_runv {op : Op} {v : Value} {w' : World} (hr : (execOp (opv N ρ) ⟨none, op, ty, pos, aft, g⟩).run P w = .ok (.value v) w')
    (h : next (act N ρ) w') : Oper.wp P ⟨none, op, ty, pos, aft, g⟩ (act N ρ) w next Qx := by
  simp only [Oper.wp, eval_act, hr, Oper.upon, Act.put]; exact h

/-! stepping over an operation, guarded or not -/
theorem L_u {all : Array Oper} {r : List Oper} {dst : Option Tmp} {op : Op} {X : Prop}
    (hp : X → Oper.wp P ⟨dst, op, ty, pos, aft, none⟩ (act N ρ) w (wpL P all Qx r) Qx) (c : X) : wpL P all Qx (⟨dst, op, ty, pos, aft, none⟩ :: r) (act N ρ) w := by
  simp only [wpL, Region.wanted, if_true]; exact hp c
theorem wanted_act {all : Array Oper} {dst : Option Tmp} {op : Op} {j t : Nat} {want : Bool} (hj : (all[j]?).bind (·.dst) = some t) (ht : Nat.blt t N = true) :
    Region.wanted ⟨dst, op, ty, pos, aft, some (j, want)⟩ (yielded all (act N ρ).tmps) = gdB (ρ t) want := by
  have hy : yielded all (act N ρ).tmps j = match ρ t with | .bool b => some b | _ => none := by
    unfold yielded
    rw [hj]
    have h : t < N := by simpa using ht
    simp [act, h]
    generalize ρ t = z
    cases z <;> rfl
  simp only [Region.wanted, hy, gdB]
  cases ρ t <;> simp
theorem L_g {all : Array Oper} {r : List Oper} {op : Op} {j t : Nat} {want : Bool} {A : (Value → M) → M}
    (h : gd (ρ t) want A K w Qm) (hj : (all[j]?).bind (·.dst) = some t) (ht : Nat.blt t N = true)
    (hp : (∀ v w', K v w' Qm → wpL P all Qx r (act N (upd ρ d v)) w') → A K w Qm → Oper.wp P ⟨some d, op, ty, pos, aft, some (j, want)⟩ (act N ρ) w (wpL P all Qx r) Qx)
    (c : ∀ v w', K v w' Qm → wpL P all Qx r (act N (upd ρ d v)) w') : wpL P all Qx (⟨some d, op, ty, pos, aft, some (j, want)⟩ :: r) (act N ρ) w := by
  simp only [wpL, wanted_act hj ht]
  unfold gd at h
  cases hb : gdB (ρ t) want <;> rw [hb] at h
  · simp only [cond_false, Bool.false_eq_true, if_false, put_act] at h ⊢; exact c _ _ h
  · simp only [cond_true, if_true] at h ⊢; exact hp c h
theorem L_mv {all : Array Oper} {r : List Oper} {x : Operand} (h : wpL P all Qx r (act N (upd ρ d (opv N ρ x))) w) : wpL P all Qx (⟨some d, .move x, ty, pos, aft, none⟩ :: r) (act N ρ) w := by
  simp only [wpL, Region.wanted, if_true]; exact wp_run (by simp [execOp]) h
theorem L_as {all : Array Oper} {r : List Oper} {x : Operand} (h : wpL P all Qx r (act N (upd ρ d (opv N ρ x))) w) : wpL P all Qx (⟨some d, .assign x, ty, pos, aft, none⟩ :: r) (act N ρ) w := by
  simp only [wpL, Region.wanted, if_true]; exact wp_run (by simp [execOp]) h
def idv (x : Value) (K : Value → M) : M := K x
theorem P_mv {x : Operand} (h : idv (opv N ρ x) K w Qm) (c : ∀ v w', K v w' Qm → next (act N (upd ρ d v)) w') : Oper.wp P ⟨some d, .move x, ty, pos, aft, g⟩ (act N ρ) w next Qx :=
  wp_run (by simp [execOp]) (c _ _ h)
theorem P_nc {x : Operand} (h : nc (opv N ρ x) K w Qm) (c : ∀ v w', K v w' Qm → next (act N (upd ρ d v)) w') : Oper.wp P ⟨some d, .nilCheck x, ty, pos, aft, g⟩ (act N ρ) w next Qx := by
  obtain ⟨h1, h2⟩ := h
  refine wp_run ?_ (c _ _ h2)
  revert h1
  simp only [execOp]
  generalize opv N ρ x = v
  intro h1
  cases v with
  | pointer a => cases a <;> simp [okNil] at h1 ⊢
  | func f => cases f <;> simp [okNil] at h1 ⊢
  | _ => simp [okNil] at h1 ⊢
theorem run_isAgg_sc {t : TypeId} (h : isSc P t = true) : (isAgg t).run P w = .ok false w := by
  unfold isSc at h
  cases hu : P.underlying t with
  | none => simp [hu] at h
  | some x => cases x <;> simp [hu] at h <;> simp [isAgg, underlying, hu]
theorem run_isAgg_ag {t : TypeId} {n : Nat} (h : isAg P t n = true) : (isAgg t).run P w = .ok true w := by
  unfold isAg at h
  cases hu : P.underlying t with
  | none => simp [hu] at h
  | some x => cases x <;> simp [hu] at h <;> simp [isAgg, underlying, hu]
theorem run_sizeOf_ag {t : TypeId} {n : Nat} (h : isAg P t n = true) : (sizeOf t).run P w = .ok n w := by
  unfold isAg at h
  cases hu : P.info? t with
  | none => simp [hu] at h
  | some i => simp [hu] at h; simp [sizeOf, typeInfo, hu, h.2]
theorem run_sizeOf_one {t : TypeId} (h : isOne P t = true) : (sizeOf t).run P w = .ok 1 w := by
  unfold isOne at h
  cases hu : P.info? t with
  | none => simp [hu] at h
  | some i => simp [hu] at h; simp [sizeOf, typeInfo, hu, h]
theorem P_ld {t : TypeId} {x : Operand} (ht : isSc P t = true) (h : ld (opv N ρ x) K w Qm) (c : ∀ v w', K v w' Qm → next (act N (upd ρ d v)) w') : Oper.wp P ⟨some d, .load t x, ty, pos, aft, g⟩ (act N ρ) w next Qx := by
  obtain ⟨a, v, hx, hv, hk⟩ := h
  refine wp_run ?_ (c _ _ hk)
  simp [execOp, hx, Instr.loadAt, Instr.sureAddr, loadVar, run_isAgg_sc ht, hv]
theorem run_loadCellsFrom_rds {a : Addr} {cs : Array Value} (h : rds w a cs) : ∀ (n i : Nat) (acc : Array Value), i + n = cs.size → (loadCellsFrom a i n acc).run P w = .ok (acc ++ cs.extract i cs.size) w := by
  intro n
  induction n with
  | zero => intro i acc hi; simp only [loadCellsFrom, Sem.run_pure]; congr 1; apply Array.ext' ; simp; omega
  | succ n ih =>
    intro i acc hi
    have hlt : i < cs.size := by omega
    have hv := h i cs[i] (by simp [hlt])
    simp only [loadCellsFrom, Sem.run_bind, run_load, hv, Result.andThen_ok]
    rw [ih (i + 1) _ (by omega)]
    congr 1
    apply Array.ext'
    simp only [Array.toList_append, Array.toList_push, Array.toList_extract, List.append_assoc]
    congr 1
    rw [List.extract_eq_take_drop, List.extract_eq_take_drop]
    have : List.drop i cs.toList = cs[i] :: List.drop (i + 1) cs.toList := by
      rw [List.drop_eq_getElem_cons (by simpa using hlt)]; simp
    rw [this, show cs.size - i = (cs.size - (i + 1)) + 1 from by omega]
    simp
theorem P_ldn {t : TypeId} {n : Nat} {x : Operand} (ht : isAg P t n = true) (h : ldn n (opv N ρ x) K w Qm) (c : ∀ v w', K v w' Qm → next (act N (upd ρ d v)) w') : Oper.wp P ⟨some d, .load t x, ty, pos, aft, g⟩ (act N ρ) w next Qx := by
  obtain ⟨a, cs, hx, hn, hv, hk⟩ := h
  refine wp_run ?_ (c _ _ hk)
  have := run_loadCellsFrom_rds (P := P) hv n 0 #[] (by omega)
  simp [execOp, hx, Instr.loadAt, Instr.sureAddr, loadVar, run_isAgg_ag ht, run_sizeOf_ag ht, loadCells, this]
theorem P_st {t : TypeId} {x v : Operand} (ht : isOne P t = true) (h : st (opv N ρ x) (opv N ρ v) K0 w Qm) (c : ∀ w', K0 w' Qm → next (act N ρ) w') : Oper.wp P ⟨none, .store t x v, ty, pos, aft, g⟩ (act N ρ) w next Qx := by
  obtain ⟨a, hx, hc, hf, ho, hk⟩ := h
  refine wp_run0 ?_ (c _ hk)
  have hcells : (opv N ρ v).cells = #[opv N ρ v] := by revert ho; generalize opv N ρ v = y; cases y <;> simp [Value.cells, Value.oneCell']
  obtain ⟨u, hu⟩ := Option.isSome_iff_exists.1 hc
  have := run_store P w a (opv N ρ v) .plain ho
  have h0 : a.add 0 = a := rfl
  simp [execOp, hx, Instr.storeAt, Instr.sureAddr, storeVar, hcells, run_sizeOf_one ht, storeCells, h0, this, hu, hf]
theorem run_storeCells_sts : ∀ (l : List Value) (w w' : World) (a : Addr) (i : Nat), sts w a l i = some w' → (storeCells a l i).run P w = .ok () w' := by
  intro l
  induction l with
  | nil => intro w w' a i h; simp [sts] at h; subst h; simp [storeCells]
  | cons v l ih =>
    intro w w' a i h
    simp only [sts] at h
    split at h
    · rename_i hc
      simp only [Bool.and_eq_true, Bool.not_eq_true'] at hc
      obtain ⟨⟨h1, h2⟩, h3⟩ := hc
      obtain ⟨u, hu⟩ := Option.isSome_iff_exists.1 h1
      have := run_store P w (a.add i) v .plain h3
      simp only [storeCells, Sem.run_bind, this, hu, h2, Bool.false_eq_true, if_false, Result.andThen_ok]
      exact ih _ _ _ _ h
    · cases h
theorem P_stn {t : TypeId} {n : Nat} {x v : Operand} (ht : isAg P t n = true) (h : stn n (opv N ρ x) (opv N ρ v) K0 w Qm) (c : ∀ w', K0 w' Qm → next (act N ρ) w') : Oper.wp P ⟨none, .store t x v, ty, pos, aft, g⟩ (act N ρ) w next Qx := by
  obtain ⟨a, cs, w', hx, hv, hn, hs, hk⟩ := h
  refine wp_run0 ?_ (c _ hk)
  have := run_storeCells_sts (P := P) _ _ _ _ _ hs
  simp [execOp, hx, hv, Instr.storeAt, Instr.sureAddr, storeVar, Value.cells, run_sizeOf_ag ht, hn, this]
theorem P_fa {s f k : Nat} {x : Operand} (ht : fOff P s f k = true) (h : fa k (opv N ρ x) K w Qm) (c : ∀ v w', K v w' Qm → next (act N (upd ρ d v)) w') : Oper.wp P ⟨some d, .fieldAddr s x f, ty, pos, aft, g⟩ (act N ρ) w next Qx := by
  obtain ⟨a, hx, hk⟩ := h
  refine wp_run ?_ (c _ _ hk)
  unfold fOff at ht
  split at ht
  · rename_i fs hu
    split at ht
    · rename_i fd hfd
      simp only [Bool.and_eq_true, beq_iff_eq] at ht
      obtain ⟨h1, h2⟩ := ht
      split at h2
      · rename_i i hi
        have hs : (sizeOf fd.type).run P w = .ok i.size w := by simp [sizeOf, typeInfo, hi]
        have h2' : ¬ i.size = 0 := by simpa using h2
        simp [execOp, hx, Instr.fieldAt, underlying, hu, hfd, Instr.sureAddr, fieldPlace, hs, h2', h1]
      · cases h2
    · cases ht
  · cases ht
theorem P_ad {k : IntKind} {t t2 : TypeId} {x y : Operand} (h : ad k (opv N ρ x) (opv N ρ y) K w Qm) (c : ∀ v w', K v w' Qm → next (act N (upd ρ d v)) w') : Oper.wp P ⟨some d, .binOp .add t x y t2, ty, pos, aft, g⟩ (act N ρ) w next Qx := by
  obtain ⟨a, b, hx, hy, hk⟩ := h
  exact wp_run (by simp [execOp, hx, hy, eqGuard, binOp, Op.intArith]) (c _ _ hk)
theorem P_su {k : IntKind} {t t2 : TypeId} {x y : Operand} (h : su k (opv N ρ x) (opv N ρ y) K w Qm) (c : ∀ v w', K v w' Qm → next (act N (upd ρ d v)) w') : Oper.wp P ⟨some d, .binOp .sub t x y t2, ty, pos, aft, g⟩ (act N ρ) w next Qx := by
  obtain ⟨a, b, hx, hy, hk⟩ := h
  exact wp_run (by simp [execOp, hx, hy, eqGuard, binOp, Op.intArith]) (c _ _ hk)
theorem P_mu {k : IntKind} {t t2 : TypeId} {x y : Operand} (h : mu k (opv N ρ x) (opv N ρ y) K w Qm) (c : ∀ v w', K v w' Qm → next (act N (upd ρ d v)) w') : Oper.wp P ⟨some d, .binOp .mul t x y t2, ty, pos, aft, g⟩ (act N ρ) w next Qx := by
  obtain ⟨a, b, hx, hy, hk⟩ := h
  exact wp_run (by simp [execOp, hx, hy, eqGuard, binOp, Op.intArith]) (c _ _ hk)
theorem P_lt {k : IntKind} {t t2 : TypeId} {x y : Operand} (h : lt k (opv N ρ x) (opv N ρ y) K w Qm) (c : ∀ v w', K v w' Qm → next (act N (upd ρ d v)) w') : Oper.wp P ⟨some d, .binOp .lss t x y t2, ty, pos, aft, g⟩ (act N ρ) w next Qx := by
  obtain ⟨a, b, hx, hy, hk⟩ := h
  exact wp_run (by simp [execOp, hx, hy, eqGuard, binOp, Op.intCmp]) (c _ _ hk)
theorem P_le {k : IntKind} {t t2 : TypeId} {x y : Operand} (h : le k (opv N ρ x) (opv N ρ y) K w Qm) (c : ∀ v w', K v w' Qm → next (act N (upd ρ d v)) w') : Oper.wp P ⟨some d, .binOp .leq t x y t2, ty, pos, aft, g⟩ (act N ρ) w next Qx := by
  obtain ⟨a, b, hx, hy, hk⟩ := h
  exact wp_run (by simp [execOp, hx, hy, eqGuard, binOp, Op.intCmp]) (c _ _ hk)
theorem P_gt {k : IntKind} {t t2 : TypeId} {x y : Operand} (h : gt k (opv N ρ x) (opv N ρ y) K w Qm) (c : ∀ v w', K v w' Qm → next (act N (upd ρ d v)) w') : Oper.wp P ⟨some d, .binOp .gtr t x y t2, ty, pos, aft, g⟩ (act N ρ) w next Qx := by
  obtain ⟨a, b, hx, hy, hk⟩ := h
  exact wp_run (by simp [execOp, hx, hy, eqGuard, binOp, Op.intCmp, GT.gt]) (c _ _ hk)
theorem P_eqi {k : IntKind} {t t2 : TypeId} {x y : Operand} (h : eqi k (opv N ρ x) (opv N ρ y) K w Qm) (c : ∀ v w', K v w' Qm → next (act N (upd ρ d v)) w') : Oper.wp P ⟨some d, .binOp .eql t x y t2, ty, pos, aft, g⟩ (act N ρ) w next Qx := by
  obtain ⟨a, b, hx, hy, hk⟩ := h
  refine wp_run ?_ (c _ _ hk)
  simp [execOp, hx, hy, eqGuard, binOp, Op.intCmp]
  rfl
theorem P_nei {k : IntKind} {t t2 : TypeId} {x y : Operand} (h : nei k (opv N ρ x) (opv N ρ y) K w Qm) (c : ∀ v w', K v w' Qm → next (act N (upd ρ d v)) w') : Oper.wp P ⟨some d, .binOp .neq t x y t2, ty, pos, aft, g⟩ (act N ρ) w next Qx := by
  obtain ⟨a, b, hx, hy, hk⟩ := h
  refine wp_run ?_ (c _ _ hk)
  have e : (a != b) = decide (a ≠ b) := by by_cases h : a = b <;> simp [h]
  simp [execOp, hx, hy, eqGuard, binOp, Op.intCmp]
  rw [e]; simp
end
end Sh
end Go.Proofs.Ytiajdaagamhbnaa

namespace Go.Proofs.Ytiajdaagamhbnaa
namespace Sh
section
variable {P : Program} {N : Nat} {ρ : Nat → Value} {w : World} {d : Nat} {ty : TypeId} {pos : String} {aft : Array Edge} {g : Option (Nat × Bool)}
  {next : Act → World → Prop} {Qx : Exit → Act → World → Prop} {Qm : Value → World → Prop} {K : Value → M} {K0 : M}

theorem P_shr {k j : IntKind} {t t2 : TypeId} {x y : Operand} (h : shr k j (opv N ρ x) (opv N ρ y) K w Qm) (c : ∀ v w', K v w' Qm → next (act N (upd ρ d v)) w') : Oper.wp P ⟨some d, .binOp .shr t x y t2, ty, pos, aft, g⟩ (act N ρ) w next Qx := by
  obtain ⟨a, b, hx, hy, hb, hk⟩ := h
  refine wp_run ?_ (c _ _ hk)
  simp [execOp, hx, hy, eqGuard, binOp, Op.shift, show ¬ b < 0 from by omega]
theorem P_nt {t : TypeId} {x : Operand} (h : nt (opv N ρ x) K w Qm) (c : ∀ v w', K v w' Qm → next (act N (upd ρ d v)) w') : Oper.wp P ⟨some d, .unOp .not t x, ty, pos, aft, g⟩ (act N ρ) w next Qx := by
  obtain ⟨a, hx, hk⟩ := h
  exact wp_run (by simp [execOp, hx, Op.unary]) (c _ _ hk)
theorem P_pk {x y z : Operand} (h : pk (opv N ρ x) (opv N ρ y) (opv N ρ z) K w Qm) (c : ∀ v w', K v w' Qm → next (act N (upd ρ d v)) w') : Oper.wp P ⟨some d, .pick x y z, ty, pos, aft, g⟩ (act N ρ) w next Qx := by
  obtain ⟨b, hx, hk⟩ := h
  refine wp_run ?_ (c _ _ hk)
  cases b <;> simp [execOp, hx, asBool]
theorem P_cv {k : IntKind} {s t : TypeId} {x : Operand} (hs : (match P.underlying s with | some (.int _) => true | _ => false) = true) (ht : isInt P t k = true) (h : cv k (opv N ρ x) K w Qm) (c : ∀ v w', K v w' Qm → next (act N (upd ρ d v)) w') : Oper.wp P ⟨some d, .convert s t x, ty, pos, aft, g⟩ (act N ρ) w next Qx := by
  obtain ⟨j, a, hx, hk⟩ := h
  refine wp_run ?_ (c _ _ hk)
  unfold isInt at ht
  cases hu : P.underlying t with
  | none => simp [hu] at ht
  | some u =>
    cases u <;> simp [hu] at ht
    cases hv : P.underlying s with
    | none => simp [hv] at hs
    | some u' =>
      cases u' <;> simp [hv] at hs
      subst ht
      simp [execOp, hx, convert, underlying, hu, hv, Conv.intToInt]
theorem P_al {t : TypeId} {z : Value} {cs : Array Value} (hz : zeroIs P t z) (hc : z.cells = cs) (h : al t cs K w Qm) (c : ∀ v w', K v w' Qm → next (act N (upd ρ d v)) w') : Oper.wp P ⟨some d, .alloc t, ty, pos, aft, g⟩ (act N ρ) w next Qx := by
  refine wp_run ?_ (c _ _ h)
  unfold zeroIs at hz
  cases hu : P.info? t with
  | none => simp [hu] at hz
  | some i =>
    simp [hu] at hz
    simp [execOp, Instr.alloc, zeroValue, typeInfo, hu, hz, newVar, newRow, hc, psh]
theorem P_bx {t : TypeId} {x : Operand} (h : bx t (opv N ρ x) K w Qm) (c : ∀ v w', K v w' Qm → next (act N (upd ρ d v)) w') : Oper.wp P ⟨some d, .box t x, ty, pos, aft, g⟩ (act N ρ) w next Qx := by
  refine wp_run ?_ (c _ _ h)
  simp [execOp, Instr.box, newVar, newRow, psh]
theorem P_lnl {t : TypeId} {x : Operand} (ht : isSl P t = true) (h : lnl (opv N ρ x) K w Qm) (c : ∀ v w', K v w' Qm → next (act N (upd ρ d v)) w') : Oper.wp P ⟨some d, .call ⟨.builtin .len, #[x], #[t]⟩, ty, pos, aft, g⟩ (act N ρ) w next Qx := by
  obtain ⟨a, l, cp, hx, hk⟩ := h
  refine wp_run ?_ (c _ _ hk)
  unfold isSl at ht
  cases hu : P.underlying t with
  | none => simp [hu] at ht
  | some u =>
    cases u <;> simp [hu] at ht
    simp [execOp, hx, resolve, invoke, builtin, Builtin.len_, underlying, hu, goInt]
theorem P_mnm {t : TypeId} {x y : Operand} {ts : Array TypeId} (h : mnm (opv N ρ x) (opv N ρ y) K w Qm) (c : ∀ v w', K v w' Qm → next (act N (upd ρ d v)) w') : Oper.wp P ⟨some d, .call ⟨.builtin .min, #[x, y], ts⟩, ty, pos, aft, g⟩ (act N ρ) w next Qx := by
  obtain ⟨k, a, b, hx, hy, hk⟩ := h
  refine wp_run ?_ (c _ _ hk)
  simp [execOp, hx, hy, resolve, invoke, builtin, Builtin.min_, Builtin.min2]
theorem P_mxm {t : TypeId} {x y : Operand} {ts : Array TypeId} (h : mxm (opv N ρ x) (opv N ρ y) K w Qm) (c : ∀ v w', K v w' Qm → next (act N (upd ρ d v)) w') : Oper.wp P ⟨some d, .call ⟨.builtin .max, #[x, y], ts⟩, ty, pos, aft, g⟩ (act N ρ) w next Qx := by
  obtain ⟨k, a, b, hx, hy, hk⟩ := h
  refine wp_run ?_ (c _ _ hk)
  simp [execOp, hx, hy, resolve, invoke, builtin, Builtin.max_, Builtin.max2]
theorem P_ia {t : TypeId} {n : Nat} {x y : Operand} (ht : slE P t n = true) (h : ia n (opv N ρ x) (opv N ρ y) K w Qm) (c : ∀ v w', K v w' Qm → next (act N (upd ρ d v)) w') : Oper.wp P ⟨some d, .indexAddr t x y, ty, pos, aft, g⟩ (act N ρ) w next Qx := by
  obtain ⟨a, l, cp, k, j, hx, hy, h0, hl, hk⟩ := h
  refine wp_run ?_ (c _ _ hk)
  unfold slE at ht
  cases hu : P.underlying t with
  | none => simp [hu] at ht
  | some u =>
    cases u <;> simp [hu] at ht
    obtain ⟨i, hi, hs⟩ := ht
    simp [execOp, hx, hy, Instr.indexAt, asIntOf, underlying, hu, sizeOf, typeInfo, hi, hs, h0, hl]
theorem run_bound {o : Option Value} {dflt m l : Nat} {v : Value} {code : BoundsCode} (h : bnd o dflt m l) (ho : o = some v) : (Instr.sliceBound v m code).run P w = .ok l w := by
  subst ho
  obtain ⟨k, j, rfl, h0, h1, rfl⟩ := h
  simp [Instr.sliceBound, asIntOf, h0, h1]
theorem P_sll {t : TypeId} {n : Nat} {x : Operand} {lo hi : Option Operand} (ht : slE P t n = true) (h : sll n (opv N ρ x) (lo.map (opv N ρ)) (hi.map (opv N ρ)) K w Qm) (c : ∀ v w', K v w' Qm → next (act N (upd ρ d v)) w') : Oper.wp P ⟨some d, .slice t x lo hi none, ty, pos, aft, g⟩ (act N ρ) w next Qx := by
  obtain ⟨a, len, cap, l, hh, hx, h1, h2, hk⟩ := h
  refine wp_run ?_ (c _ _ hk)
  unfold slE at ht
  cases hu : P.underlying t with
  | none => simp [hu] at ht
  | some u =>
    cases u <;> simp [hu] at ht
    obtain ⟨i, hi', hs⟩ := ht
    cases lo with
    | none =>
      have h2' : l = 0 := h2
      subst h2'
      cases hi with
      | none => have h1' : hh = len := h1; subst h1'; simp [execOp, hx, Instr.sliceAt, Instr.slice, underlying, hu, Instr.sliceBounds, sizeOf, typeInfo, hi', hs]
      | some y => have := run_bound (P := P) (w := w) (code := .sliceAcap) h1 rfl; simp [execOp, hx, Instr.sliceAt, Instr.slice, underlying, hu, Instr.sliceBounds, this, sizeOf, typeInfo, hi', hs]
    | some z =>
      have h2' := run_bound (P := P) (w := w) (code := .sliceB) h2 rfl
      cases hi with
      | none => have h1' : hh = len := h1; subst h1'; simp [execOp, hx, Instr.sliceAt, Instr.slice, underlying, hu, Instr.sliceBounds, h2', sizeOf, typeInfo, hi', hs]
      | some y => have := run_bound (P := P) (w := w) (code := .sliceAcap) h1 rfl; simp [execOp, hx, Instr.sliceAt, Instr.slice, underlying, hu, Instr.sliceBounds, this, h2', sizeOf, typeInfo, hi', hs]
theorem P_mf {fn : Fn} {first cap : Array Operand} (h : idv (.func fn (first.map (opv N ρ)) (cap.map (opv N ρ))) K w Qm) (c : ∀ v w', K v w' Qm → next (act N (upd ρ d v)) w') : Oper.wp P ⟨some d, .makeFunc fn first cap, ty, pos, aft, g⟩ (act N ρ) w next Qx :=
  wp_run (by simp [execOp, Instr.makeFunc]) (c _ _ h)
theorem P_mm {t : TypeId} (h : mm K w Qm) (c : ∀ v w', K v w' Qm → next (act N (upd ρ d v)) w') : Oper.wp P ⟨some d, .makeMap t none, ty, pos, aft, g⟩ (act N ρ) w next Qx :=
  wp_run (by simp [execOp, Instr.makeMap, psh]) (c _ _ h)
/-- Whatever operation yields a value: by its own run. -/
theorem P_sm {op : Op} {s : Sem Value} (he : execOp (opv N ρ) ⟨some d, op, ty, pos, aft, g⟩ = (do pure (.value (← s)))) (h : sm P s K w Qm) (c : ∀ v w', K v w' Qm → next (act N (upd ρ d v)) w') : Oper.wp P ⟨some d, op, ty, pos, aft, g⟩ (act N ρ) w next Qx := by
  obtain ⟨v, w', hr, hk⟩ := h
  exact wp_run (by rw [he]; simp [hr]) (c _ _ hk)
theorem P_smn {op : Op} {s : Sem Value} (he : execOp (opv N ρ) ⟨none, op, ty, pos, aft, g⟩ = (do pure (.value (← s)))) (h : sm P s (fun _ => K0) w Qm) (c : ∀ w', K0 w' Qm → next (act N ρ) w') : Oper.wp P ⟨none, op, ty, pos, aft, g⟩ (act N ρ) w next Qx := by
  obtain ⟨v, w', hr, hk⟩ := h
  exact wp_runv (v := v) (by rw [he]; simp [hr]) (c _ hk)
theorem P_smu {op : Op} {s : Sem Unit} (he : execOp (opv N ρ) ⟨none, op, ty, pos, aft, g⟩ = (do s; pure .skip)) (h : smu P s K0 w Qm) (c : ∀ w', K0 w' Qm → next (act N ρ) w') : Oper.wp P ⟨none, op, ty, pos, aft, g⟩ (act N ρ) w next Qx := by
  obtain ⟨w', hr, hk⟩ := h
  exact wp_run0 (by rw [he]; simp [hr]) (c _ hk)
/-! calls -/
theorem P_cc {fn : Func} {b : Code} {f : FuncId} {xs : Array Operand} {ts : Array TypeId} (hf : P.funcs[f]? = some fn) (hb : fn.body = some b) (hn : (fn.name == "runtime.NumGoroutine") = false)
    (h : cc P f (xs.map (opv N ρ)) K w Qm) (c : ∀ v w', K v w' Qm → next (act N (upd ρ d v)) w') : Oper.wp P ⟨some d, .call ⟨.value (.func f), xs, ts⟩, ty, pos, aft, g⟩ (act N ρ) w next Qx := by
  have hr : (execOp (act N ρ).eval ⟨some d, .call ⟨.value (.func f), xs, ts⟩, ty, pos, aft, g⟩).run P w = .ok (.enter f (xs.map (opv N ρ))) w := by
    have hn' : ¬ fn.name = "runtime.NumGoroutine" := by simpa using hn
    simp [eval_act, execOp, resolve, opv, Deferred.ofValue, invoke, callFunc, hf, hb, hn']
  simp only [Oper.wp, hr, Oper.upon]
  exact Calls.mono h fun e w' he => by
    cases e with
    | returned v => simp only [put_act]; exact c _ _ he
    | panicked ch => exact he.elim
    | outgrown => exact he.elim
theorem P_cl {fn : Func} {b : Code} {f : FuncId} {F : M} {xs : Array Operand} {ts : Array TypeId} (hf : P.funcs[f]? = some fn) (hb : fn.body = some b) (hn : (fn.name == "runtime.NumGoroutine") = false)
    (hs : ∀ w Q, F w Q → Calls P f (xs.map (opv N ρ)) w (Rt Q))
    (h : cl F K w Qm) (c : ∀ v w', K v w' Qm → next (act N (upd ρ d v)) w') : Oper.wp P ⟨some d, .call ⟨.value (.func f), xs, ts⟩, ty, pos, aft, g⟩ (act N ρ) w next Qx :=
  P_cc hf hb hn (hs _ _ h) c
theorem P_cf {x : Operand} {xs : Array Operand} {ts : Array TypeId}
    (h : cf P (opv N ρ x) (xs.map (opv N ρ)) K w Qm) (c : ∀ v w', K v w' Qm → next (act N (upd ρ d v)) w') : Oper.wp P ⟨some d, .call ⟨.value x, xs, ts⟩, ty, pos, aft, g⟩ (act N ρ) w next Qx := by
  obtain ⟨f, z, cap, hx, hr, hk⟩ := h
  have hr : (execOp (act N ρ).eval ⟨some d, .call ⟨.value x, xs, ts⟩, ty, pos, aft, g⟩).run P w = .ok (.enter f (z ++ xs.map (opv N ρ) ++ cap)) w := by
    simp only [eval_act, execOp, resolve, hx, Deferred.ofValue, invoke, pure_bind, hr]
  simp only [Oper.wp, hr, Oper.upon]
  exact Calls.mono hk fun e w' he => by
    cases e with
    | returned v => simp only [put_act]; exact c _ _ he
    | panicked ch => exact he.elim
    | outgrown => exact he.elim
theorem C_cnd {x : Operand} {A B : Code} {Am Bm : M} (h : cnd (opv N ρ x) Am Bm w Qm) (ha : Am w Qm → A.wp P Qx (act N ρ) w) (hb : Bm w Qm → B.wp P Qx (act N ρ) w) : (Code.cond x A B).wp P Qx (act N ρ) w := by
  obtain ⟨b, hx, hk⟩ := h
  cases b with
  | true => exact wp_cond_true (by rw [eval_act]; exact hx) (ha hk)
  | false => exact wp_cond_false (by rw [eval_act]; exact hx) (hb hk)
theorem C_loop {c : Code} (I : Nat → Act → World → Prop) {a : Act} {n : Nat} (h0 : I n a w)
    (round : ∀ n a w, I n a w → c.wp P (Exit.then (fun a' w' => ∃ m, m < n ∧ I m a' w') Qx) a w) : (Code.loop c).wp P Qx a w := by
  intro b k cs
  have key : ∀ n a w, I n a w → ∃ e a' w', Qx e a' w' ∧ Arrives P (lone (b.at a (.code c :: .inLoop c :: k)) cs w) b k cs e a' w' := by
    intro n
    induction n using Nat.strongRecOn with
    | _ n ih =>
      intro a w hI
      obtain ⟨e, a₁, w₁, hq, harr⟩ := round n a w hI b (.inLoop c :: k) cs
      cases e with
      | normal =>
        obtain ⟨m, hlt, hI₁⟩ := hq
        obtain ⟨e₂, a₂, w₂, hq₂, harr₂⟩ := ih m hlt a₁ w₁ hI₁
        exact ⟨e₂, a₂, w₂, hq₂, .of_steps (Steps.trans harr (.one step_inLoop)) harr₂⟩
      | exit id => exact ⟨_, a₁, w₁, hq, .pass (x := .inLoop c) rfl (fun _ _ => .inl (by simp)) harr⟩
      | goto l => exact ⟨_, a₁, w₁, hq, .pass (x := .inLoop c) rfl (fun _ _ => .inl (by simp)) harr⟩
      | ret => exact ⟨_, a₁, w₁, hq, .pass (x := .inLoop c) rfl (fun _ _ => .inl (by simp)) harr⟩
      | panic ch => exact ⟨_, a₁, w₁, hq, .pass (x := .inLoop c) rfl (fun _ _ => .inl (by simp)) harr⟩
      | outgrown => exact ⟨_, a₁, w₁, hq, .pass (x := .inLoop c) rfl (fun _ _ => .inl (by simp)) harr⟩
  obtain ⟨e, a', w', hq, harr⟩ := key _ a w h0
  exact ⟨e, a', w', hq, .of_steps (.one step_loop) harr⟩
theorem C_ret {a : Act} (h : Qx .ret a w) : Code.ret.wp P Qx a w := wp_ret h
theorem C_skip {a : Act} (h : Qx .normal a w) : Code.skip.wp P Qx a w := wp_skip h
theorem C_exit {a : Act} {id : Nat} (h : Qx (.exit id) a w) : (Code.exit id).wp P Qx a w := wp_exit h
def rvOf (tmps : Array Value) : ResultVar → Sem Value
  | .tmp t => pure (tmps.getD t undef)
  | .cell a t => do loadVar t (← asAddr (tmps.getD a undef))
/-- the end of a body: what it hands back -/
theorem post_tmps {fn : Func} {ts : List Nat} {e : Exit} (he : e = .normal ∨ e = .ret) (hr : fn.results = (ts.map ResultVar.tmp).toArray)
    (h : Qm (match ts.map (fun t => opv N ρ (.tmp t)) with | [v] => v | vs => .tuple vs.toArray) w) : bodyPost P fn (Rt Qm) e (act N ρ) w := by
  have hv : (results fn (act N ρ).tmps).run P w = .ok (match ts.map (fun t => opv N ρ (.tmp t)) with | [v] => v | vs => .tuple vs.toArray) w := by
    obtain ⟨nm, og, tg, ps, rts, nf, nt, rs, bd, nr, ou, fi, el, ln, mt, tn⟩ := fn
    simp only at hr
    subst hr
    have h1 : results ⟨nm, og, tg, ps, rts, nf, nt, (ts.map ResultVar.tmp).toArray, bd, nr, ou, fi, el, ln, mt, tn⟩ (act N ρ).tmps = (do
      let vs ← (ts.map ResultVar.tmp).toArray.mapM (rvOf (act N ρ).tmps)
      pure (if h : vs.size = 1 then vs[0] else .tuple vs)) := rfl
    have hm : (ts.map ResultVar.tmp).toArray.mapM (rvOf (act N ρ).tmps) = pure (ts.map (fun t => opv N ρ (.tmp t))).toArray := by
      rw [List.mapM_toArray]
      have : ∀ l : List Nat, (l.map ResultVar.tmp).mapM (rvOf (act N ρ).tmps) = pure (l.map (fun t => opv N ρ (.tmp t))) := by
        intro l
        induction l with
        | nil => rfl
        | cons t l ih =>
          simp only [List.map_cons, List.mapM_cons, ih]
          simp only [rvOf, tmps_act, opv, pure_bind]
      rw [this]; simp
    rw [h1, hm]
    simp only [pure_bind, Sem.run_pure]
    match ts with
    | [] => rfl
    | [v] => rfl
    | a :: b :: r => rfl
  rcases he with rfl | rfl
  · exact ⟨rfl, _, hv, h⟩
  · exact ⟨rfl, _, hv, h⟩
end
end Sh
end Go.Proofs.Ytiajdaagamhbnaa

namespace Go.Proofs.Ytiajdaagamhbnaa
namespace Sh
/-- Q, but False at a panic. -/
def noP (Q : Exit → Act → World → Prop) : Exit → Act → World → Prop
  | .panic _, _, _ => False
  | e, a, w => Q e a w
theorem noP_imp {Q : Exit → Act → World → Prop} : ∀ (e : Exit) (a : Act) (w : World), noP Q e a w → Q e a w := fun e a w h => by
  cases e <;> first | exact h | exact (h : False).elim

/-- Operation j waits for i, directly or by others. -/
inductive Dep (ops : Array Oper) : Nat → Nat → Prop where
  | one {j i : Nat} {o : Oper} {e : Edge} : ops[j]? = some o → e ∈ o.after → Region.binds .any e = true → e.on = i → Dep ops j i
  | more {j i : Nat} {o : Oper} {e : Edge} : ops[j]? = some o → e ∈ o.after → Region.binds .any e = true → Dep ops e.on i → Dep ops j i
def pathB (ops : Array Oper) : Nat → List Nat → Bool
  | _, [] => false
  | j, [i] => match ops[j]? with
    | some o => o.after.any fun e => Region.binds .any e && e.on == i
    | none => false
  | j, k :: l => (match ops[j]? with
    | some o => o.after.any fun e => Region.binds .any e && e.on == k
    | none => false) && pathB ops k l
theorem edge_of {ops : Array Oper} {j k : Nat} (h : (match ops[j]? with
    | some o => o.after.any fun e => Region.binds .any e && e.on == k
    | none => false) = true) : ∃ o e, ops[j]? = some o ∧ e ∈ o.after ∧ Region.binds .any e = true ∧ e.on = k := by
  cases ho : ops[j]? with
  | none => simp [ho] at h
  | some o =>
    simp only [ho] at h
    obtain ⟨e, he, hb⟩ := Array.any_eq_true'.1 h
    simp only [Bool.and_eq_true, beq_iff_eq] at hb
    exact ⟨o, e, rfl, he, hb.1, hb.2⟩
theorem dep_path {ops : Array Oper} : ∀ (l : List Nat) (j : Nat), pathB ops j l = true → ∀ i, l.getLast? = some i → Dep ops j i := by
  intro l
  induction l with
  | nil => intro j h; simp [pathB] at h
  | cons k l ih =>
    intro j h i hi
    cases l with
    | nil =>
      simp at hi; subst hi
      obtain ⟨o, e, h1, h2, h3, h4⟩ := edge_of h
      exact .one h1 h2 h3 h4
    | cons k2 l =>
      simp only [pathB, Bool.and_eq_true] at h
      obtain ⟨o, e, h1, h2, h3, h4⟩ := edge_of h.1
      have := ih k h.2 i (by simpa [List.getLast?_cons_cons] using hi)
      subst h4
      exact .more h1 h2 h3 this
abbrev Facts := List (Nat × (World → Prop))
def keepF (ops : Array Oper) (fs : Facts) (j : Nat) (w w' : World) : Prop := ∀ p ∈ fs, ¬ Dep ops j p.1 → p.2 w → p.2 w'
def closedL (ops : Array Oper) (listed : Array Bool) : Prop := ∀ j o, ops[j]? = some o → listed.getD j false = true → ∀ e ∈ o.after, Region.binds .any e = true → listed.getD e.on false = true
section
variable {P : Program} {ops : Array Oper} {Q : Exit → Act → World → Prop}

def anyG (P : Program) (ops : Array Oper) (Q : Exit → Act → World → Prop) (fs : Facts) : Nat → Array Bool → Act → World → Prop
  | 0, listed, a, w => Region.ready .any ops listed = [] ∧ Q .normal a w
  | fuel + 1, listed, a, w =>
    (Region.ready .any ops listed = [] → Q .normal a w) ∧
    ∀ i ∈ Region.ready .any ops listed, wpOp P ops Q i (fun a' w' => keepF ops fs i w w' ∧ anyG P ops Q fs fuel (listed.setIfInBounds i true) a' w') a w
theorem any_of_G {fs : Facts} : ∀ (fuel : Nat) (listed : Array Bool) (a : Act) (w : World), anyG P ops Q fs fuel listed a w → wpAny P .any ops Q fuel listed a w
  | 0, _, _, _, h => h
  | fuel + 1, _, _, _, h => ⟨h.1, fun i hi => wpOp_mono (fun a' w' h' => any_of_G fuel _ a' w' h'.2) (h.2 i hi)⟩
theorem anyG_sub {fs fs' : Facts} (hs : ∀ p ∈ fs, p ∈ fs' ∨ ∀ w, p.2 w) : ∀ (fuel : Nat) (listed : Array Bool) (a : Act) (w : World), anyG P ops Q fs' fuel listed a w → anyG P ops Q fs fuel listed a w
  | 0, _, _, _, h => h
  | fuel + 1, _, _, _, h => ⟨h.1, fun i hi => wpOp_mono (fun a' w' h' => ⟨fun p hp hd hw => (hs p hp).elim (fun hp' => h'.1 p hp' hd hw) (fun ht => ht w'), anyG_sub hs fuel _ a' w' h'.2⟩) (h.2 i hi)⟩

theorem dep_listed {listed : Array Bool} (hc : closedL ops listed) {j i : Nat} (hd : Dep ops j i) : ∀ o, ops[j]? = some o → (∀ e ∈ o.after, Region.binds .any e = true → listed.getD e.on false = true) → listed.getD i false = true := by
  induction hd with
  | one h1 h2 h3 h4 =>
    intro o ho hall
    rw [h1] at ho; cases ho
    rw [← h4]; exact hall _ h2 h3
  | more h1 h2 h3 h4 ih =>
    intro o ho hall
    rw [h1] at ho; cases ho
    have hl := hall _ h2 h3
    cases h4 with
    | one k1 k2 k3 k4 => exact ih _ k1 (fun e' he' hb' => hc _ _ k1 hl e' he' hb')
    | more k1 k2 k3 k4 => exact ih _ k1 (fun e' he' hb' => hc _ _ k1 hl e' he' hb')

theorem closedL_set {listed : Array Bool} {i : Nat} (hc : closedL ops listed) (hr : i ∈ Region.ready .any ops listed) : closedL ops (listed.setIfInBounds i true) := by
  intro j o ho hl e he hb
  by_cases hji : i = j
  · subst hji
    obtain ⟨_, o', ho', hall⟩ := mem_ready.1 hr
    rw [ho] at ho'; cases ho'
    exact getD_set_true (hall e he hb)
  · rw [getD_set_ne false hji] at hl
    exact getD_set_true (hc j o ho hl e he hb)

/-- An operation that may come up now may be taken first. -/
theorem anyG_first {fs : Facts} {F : World → Prop} {i : Nat} {oi : Oper} {v : Value} (hi : ops[i]? = some oi) (hsel : ∀ (j : Nat) (o : Oper) cs b, ops[j]? = some o → o.op ≠ .select cs b)
    (hQ : ∀ c a w, Q (.panic c) (a.put oi.dst v) w → Q (.panic c) a w) :
    ∀ (fuel : Nat) (listed : Array Bool) (a : Act) (w : World), closedL ops listed →
      (∀ j oj, ops[j]? = some oj → j ≠ i → listed.getD j true = false → (∀ e ∈ oj.after, Region.binds .any e = true → e.on ≠ i) → oi.apart ops oj = true) →
      i ∈ Region.ready .any ops listed → YieldsIf P ops F oi v a → F w →
      anyG P ops Q ((i, F) :: fs) fuel (listed.setIfInBounds i true) (a.put oi.dst v) w → anyG P ops Q fs (fuel + 1) listed a w := by
  intro fuel
  induction fuel with
  | zero =>
    intro listed a w hcl _ hr hy hF H
    refine ⟨fun h => (by rw [h] at hr; cases hr), fun j hj => ?_⟩
    by_cases hji : j = i
    · subst hji; exact hy.wpOp hi hF ⟨fun p hp _ hw => hw, anyG_sub (fun p hp => .inl (.tail _ hp)) _ _ _ _ H⟩
    · have := ready_mono hj hji
      rw [H.1] at this
      cases this
  | succ fuel ih =>
    intro listed a w hcl hfree hr hy hF H
    refine ⟨fun h => (by rw [h] at hr; cases hr), fun j hj => ?_⟩
    by_cases hji : j = i
    · subst hji; exact hy.wpOp hi hF ⟨fun p hp _ hw => hw, anyG_sub (fun p hp => .inl (.tail _ hp)) _ _ _ _ H⟩
    · have h1 := H.2 j (ready_mono hj hji)
      obtain ⟨hjun, oj, hoj, hall⟩ := mem_ready.1 hj
      have hiun : listed.getD i false = false := by
        have h0 := (mem_ready.1 hr).1
        rcases Nat.lt_or_ge i listed.size with h' | h'
        · simp [h'] at h0 ⊢; exact h0
        · simp [Array.getElem?_eq_none h']
      have hnot : ∀ e ∈ oj.after, Region.binds .any e = true → e.on ≠ i := fun e he hb heq => by
        have h1 := hall e he hb
        rw [heq, hiun] at h1
        cases h1
      have hdep : ¬ Dep ops j i := fun hd => by
        have := dep_listed hcl hd _ hoj hall; rw [hiun] at this; cases this
      have h2 := wpOp_putIf hoj (hfree j oj hoj hji hjun hnot) (fun cs b => hsel i oi cs b hi) (fun cs b => hsel j oj cs b hoj) hQ hy h1
      have hfree' : ∀ k ok, ops[k]? = some ok → k ≠ i → (listed.setIfInBounds j true).getD k true = false →
          (∀ e ∈ ok.after, Region.binds .any e = true → e.on ≠ i) → oi.apart ops ok = true := fun k ok hk hki hun hno => by
        refine hfree k ok hk hki ?_ hno
        by_cases hjk : j = k
        · subst hjk; exact hjun
        · rw [getD_set_ne true hjk] at hun; exact hun
      refine wpOp_mono (fun a' w' h3 => ?_) h2
      obtain ⟨hy', hk, hG⟩ := h3
      refine ⟨fun p hp hd hw => hk p (.tail _ hp) hd hw, ih (listed.setIfInBounds j true) a' w' (closedL_set hcl hj) hfree' (ready_mono hr (Ne.symm hji)) hy' (hk (i, F) (.head _) hdep hF) ?_⟩
      rw [Array.setIfInBounds_comm _ _ hji]
      exact hG

theorem closedL_of {listed : Array Bool} (h : ((List.range ops.size).all fun j => match ops[j]? with
    | some o => !listed.getD j false || o.after.all fun e => !Region.binds .any e || listed.getD e.on false
    | none => true) = true) : closedL ops listed := by
  intro j o ho hl e he hb
  have hj : j < ops.size := (Array.getElem?_eq_some_iff.1 ho).1
  have h1 := List.all_eq_true.1 h j (List.mem_range.2 hj)
  simp only [ho, hl, Bool.not_true, Bool.false_or] at h1
  have h2 := Array.all_eq_true_iff_forall_mem.1 h1 e he
  simpa [hb] using h2
/-- The look at a step that is taken first. -/
def stepB (ops : Array Oper) (listed : Array Bool) (i : Nat) : Bool :=
  Region.noSelect ops && Region.free .any ops listed i && (Region.ready .any ops listed).contains i &&
  ((List.range ops.size).all fun j => match ops[j]? with
    | some o => !listed.getD j false || o.after.all fun e => !Region.binds .any e || listed.getD e.on false
    | none => true)
theorem anyG_take {fs : Facts} {F : World → Prop} {i : Nat} {oi : Oper} {v : Value} {fuel : Nat} {listed : Array Bool} {a : Act} {w : World} (hi : ops[i]? = some oi) (hs : stepB ops listed i = true)
    (hy : YieldsIf P ops F oi v a) (hF : F w) (h : anyG P ops (noP Q) ((i, F) :: fs) fuel (listed.setIfInBounds i true) (a.put oi.dst v) w) : anyG P ops (noP Q) fs (fuel + 1) listed a w := by
  simp only [stepB, Bool.and_eq_true] at hs
  obtain ⟨⟨⟨h1, h2⟩, h3⟩, h4⟩ := hs
  exact anyG_first hi (Region.noSelect_spec h1) (fun _ _ _ h => h.elim) fuel listed a w (closedL_of h4) (Region.free_spec hi h2) (by simpa using h3) hy hF h

variable {N : Nat} {ρ : Nat → Value} {w : World} {d : Nat} {ty : TypeId} {pos : String} {aft : Array Edge} {Qm : Value → World → Prop} {K : Value → M} {K0 : M} {fs : Facts} {fuel : Nat} {listed : Array Bool}

/-- an operation that looks at no memory -/
theorem G_p {op : Op} (i : Nat) (hi : ops[i]? = some ⟨some d, op, ty, pos, aft, none⟩) (hs : stepB ops listed i = true)
    (hy : ∃ v, (∀ w', (execOp (opv N ρ) ⟨some d, op, ty, pos, aft, none⟩).run P w' = .ok (.value v) w') ∧ K v w Qm)
    (c : ∀ v, K v w Qm → anyG P ops (noP Q) fs fuel (listed.setIfInBounds i true) (act N (upd ρ d v)) w) : anyG P ops (noP Q) fs (fuel + 1) listed (act N ρ) w := by
  obtain ⟨v, hr, hk⟩ := hy
  refine anyG_sub (fs' := fs) (fun p hp => .inl hp) _ _ _ _ (anyG_take (F := fun _ => True) (v := v) hi hs (.inl ⟨rfl, fun w' _ => by rw [eval_act]; exact hr w'⟩) trivial ?_)
  refine anyG_sub (fs' := fs) (fun p hp => ?_) _ _ _ _ (by rw [put_act]; exact c v hk)
  rcases List.mem_cons.1 hp with rfl | hp
  · exact .inr fun _ => trivial
  · exact .inl hp
theorem G_pg {op : Op} {A : (Value → M) → M} {t j : Nat} {want : Bool} (i : Nat) (hi : ops[i]? = some ⟨some d, op, ty, pos, aft, some (j, want)⟩) (hs : stepB ops listed i = true)
    (h : gd (ρ t) want A K w Qm) (hj : (ops[j]?).bind (·.dst) = some t) (ht : Nat.blt t N = true)
    (hy : A K w Qm → ∃ v, (∀ w', (execOp (opv N ρ) ⟨some d, op, ty, pos, aft, some (j, want)⟩).run P w' = .ok (.value v) w') ∧ K v w Qm)
    (c : ∀ v, K v w Qm → anyG P ops (noP Q) fs fuel (listed.setIfInBounds i true) (act N (upd ρ d v)) w) : anyG P ops (noP Q) fs (fuel + 1) listed (act N ρ) w := by
  have key : ∃ v, YieldsIf P ops (fun _ => True) ⟨some d, op, ty, pos, aft, some (j, want)⟩ v (act N ρ) ∧ K v w Qm := by
    unfold gd at h
    cases hb : gdB (ρ t) want <;> rw [hb] at h
    · exact ⟨undef, .inr ⟨by rw [wanted_act hj ht]; exact hb, rfl⟩, h⟩
    · obtain ⟨v, hr, hk⟩ := hy h
      exact ⟨v, .inl ⟨by rw [wanted_act hj ht]; exact hb, fun w' _ => by rw [eval_act]; exact hr w'⟩, hk⟩
  obtain ⟨v, hyy, hk⟩ := key
  refine anyG_sub (fs' := fs) (fun p hp => .inl hp) _ _ _ _ (anyG_take (F := fun _ => True) (v := v) hi hs hyy trivial ?_)
  refine anyG_sub (fs' := fs) (fun p hp => ?_) _ _ _ _ (by rw [put_act]; exact c v hk)
  rcases List.mem_cons.1 hp with rfl | hp
  · exact .inr fun _ => trivial
  · exact .inl hp
/-- an operation that reads memory -/
theorem G_r {op : Op} (F : Value → World → Prop) (i : Nat) (hi : ops[i]? = some ⟨some d, op, ty, pos, aft, none⟩) (hs : stepB ops listed i = true)
    (hy : ∃ v, F v w ∧ (∀ w', F v w' → (execOp (opv N ρ) ⟨some d, op, ty, pos, aft, none⟩).run P w' = .ok (.value v) w') ∧ K v w Qm)
    (c : ∀ v, K v w Qm → anyG P ops (noP Q) ((i, F v) :: fs) fuel (listed.setIfInBounds i true) (act N (upd ρ d v)) w) : anyG P ops (noP Q) fs (fuel + 1) listed (act N ρ) w := by
  obtain ⟨v, hF, hr, hk⟩ := hy
  exact anyG_take (F := F v) (v := v) hi hs (.inl ⟨rfl, fun w' hw' => by rw [eval_act]; exact hr w' hw'⟩) hF (by rw [put_act]; exact c v hk)
theorem G_rg {op : Op} {A : (Value → M) → M} {t j : Nat} {want : Bool} (F : Value → World → Prop) (i : Nat) (hi : ops[i]? = some ⟨some d, op, ty, pos, aft, some (j, want)⟩) (hs : stepB ops listed i = true)
    (h : gd (ρ t) want A K w Qm) (hj : (ops[j]?).bind (·.dst) = some t) (ht : Nat.blt t N = true)
    (hy : A K w Qm → ∃ v, F v w ∧ (∀ w', F v w' → (execOp (opv N ρ) ⟨some d, op, ty, pos, aft, some (j, want)⟩).run P w' = .ok (.value v) w') ∧ K v w Qm)
    (c : ∀ v, K v w Qm → anyG P ops (noP Q) ((i, fun w' => gdB (ρ t) want = true → F v w') :: fs) fuel (listed.setIfInBounds i true) (act N (upd ρ d v)) w) : anyG P ops (noP Q) fs (fuel + 1) listed (act N ρ) w := by
  unfold gd at h
  cases hb : gdB (ρ t) want <;> rw [hb] at h
  · exact anyG_take (F := fun w' => gdB (ρ t) want = true → F undef w') (v := undef) hi hs (.inr ⟨by rw [wanted_act hj ht]; exact hb, rfl⟩) (by rw [hb]; exact fun h => by cases h) (by rw [put_act]; exact c _ h)
  · obtain ⟨v, hF, hr, hk⟩ := hy h
    exact anyG_take (F := fun w' => gdB (ρ t) want = true → F v w') (v := v) hi hs (.inl ⟨by rw [wanted_act hj ht]; exact hb, fun w' hw' => by rw [eval_act]; exact hr w' (hw' hb)⟩) (fun _ => hF) (by rw [put_act]; exact c v hk)
/-- a deed that alone may come up -/
theorem G_e {op : Op} {dst : Option Tmp} (i : Nat) (hi : ops[i]? = some ⟨dst, op, ty, pos, aft, none⟩) (hr : Region.ready .any ops listed = [i])
    (h : Oper.wp P ⟨dst, op, ty, pos, aft, none⟩ (act N ρ) w (fun a' w' => keepF ops fs i w w' ∧ anyG P ops (noP Q) fs fuel (listed.setIfInBounds i true) a' w') (noP Q)) : anyG P ops (noP Q) fs (fuel + 1) listed (act N ρ) w := by
  refine ⟨(fun h0 => by rw [hr] at h0; cases h0), fun j hj => ?_⟩
  rw [hr] at hj
  simp only [List.mem_singleton] at hj
  subst hj
  simp only [wpOp, hi, Region.wanted, if_true]
  exact .inl h
theorem G_eg {op : Op} {A : (Value → M) → M} {t j : Nat} {want : Bool} (i : Nat) (hi : ops[i]? = some ⟨some d, op, ty, pos, aft, some (j, want)⟩) (hr : Region.ready .any ops listed = [i])
    (h : gd (ρ t) want A K w Qm) (hj : (ops[j]?).bind (·.dst) = some t) (ht : Nat.blt t N = true)
    (hp : (∀ v w', K v w' Qm → keepF ops fs i w w' ∧ anyG P ops (noP Q) fs fuel (listed.setIfInBounds i true) (act N (upd ρ d v)) w') → A K w Qm → Oper.wp P ⟨some d, op, ty, pos, aft, some (j, want)⟩ (act N ρ) w (fun a' w' => keepF ops fs i w w' ∧ anyG P ops (noP Q) fs fuel (listed.setIfInBounds i true) a' w') (noP Q))
    (c : ∀ v w', K v w' Qm → keepF ops fs i w w' ∧ anyG P ops (noP Q) fs fuel (listed.setIfInBounds i true) (act N (upd ρ d v)) w') : anyG P ops (noP Q) fs (fuel + 1) listed (act N ρ) w := by
  refine ⟨(fun h0 => by rw [hr] at h0; cases h0), fun k hk => ?_⟩
  rw [hr] at hk
  simp only [List.mem_singleton] at hk
  subst hk
  simp only [wpOp, hi, wanted_act hj ht]
  unfold gd at h
  cases hb : gdB (ρ t) want <;> rw [hb] at h
  · simp only [Bool.false_eq_true, if_false, put_act]; exact c _ _ h
  · simp only [if_true]; exact .inl (hp c h)
/-- two deeds neither of which waits for the other -/
def amb (A B : M) : M := fun w Q => A w Q ∧ B w Q
theorem G_done {a : Act} (hr : Region.ready .any ops listed = []) (h : Q .normal a w) : anyG P ops (noP Q) fs fuel listed a w := by
  cases fuel with
  | zero => exact ⟨hr, h⟩
  | succ n => exact ⟨fun _ => h, by rw [hr]; simp⟩
/-- what is to be shown anew behind a deed -/
def kp (F : World → Prop) (K0 : M) : M := fun w Q => F w ∧ K0 w Q
theorem keepF_nil {j : Nat} {w w' : World} : keepF ops [] j w w' := fun _ h => by cases h
theorem keepF_cons {i j : Nat} {F : World → Prop} {w w' : World} (h : F w') (h' : keepF ops fs j w w') : keepF ops ((i, F) :: fs) j w w' := by
  intro p hp hd hw
  rcases List.mem_cons.1 hp with rfl | hp
  · exact h
  · exact h' p hp hd hw
theorem keepF_dep {i j : Nat} {F : World → Prop} {w w' : World} (l : List Nat) (h : pathB ops j l = true) (hl : l.getLast? = some i) (h' : keepF ops fs j w w') : keepF ops ((i, F) :: fs) j w w' := by
  intro p hp hd hw
  rcases List.mem_cons.1 hp with rfl | hp
  · exact absurd (dep_path l j h _ hl) hd
  · exact h' p hp hd hw
theorem D_region {id : Nat} {l : List Oper} {a : Act} (hm : P.follows .mixedOrders = true) (n : Nat) (hn : l.length = n)
    (h : anyG P l.toArray (noP Q) [] n (Array.replicate n false) a (drw w)) : (Code.region id l.toArray true).wp P Q a w := by
  refine wp_mono (Q := noP Q) (wp_region_any hm ?_) noP_imp
  have := any_of_G _ _ _ _ h
  subst hn
  simpa [drw] using this
end
end Sh
end Go.Proofs.Ytiajdaagamhbnaa

namespace Go.Proofs.Ytiajdaagamhbnaa
namespace Sh
section
variable {P : Program} {N : Nat} {ρ : Nat → Value} {w : World} {d : Nat} {ty : TypeId} {pos : String} {aft : Array Edge} {g : Option (Nat × Bool)}
  {Qm : Value → World → Prop} {K : Value → M} {K0 : M}

theorem Y_mv {x : Operand} (h : idv (opv N ρ x) K w Qm) :
    ∃ v, (∀ w', (execOp (opv N ρ) ⟨some d, .move x, ty, pos, aft, g⟩).run P w' = .ok (.value v) w') ∧ K v w Qm :=
  ⟨_, (fun w => by simp [execOp]), h⟩

theorem Y_as {x : Operand} (h : idv (opv N ρ x) K w Qm) :
    ∃ v, (∀ w', (execOp (opv N ρ) ⟨some d, .assign x, ty, pos, aft, g⟩).run P w' = .ok (.value v) w') ∧ K v w Qm :=
  ⟨_, (fun w => by simp [execOp]), h⟩

theorem Y_nc {x : Operand} (h : nc (opv N ρ x) K w Qm) :
    ∃ v, (∀ w', (execOp (opv N ρ) ⟨some d, .nilCheck x, ty, pos, aft, g⟩).run P w' = .ok (.value v) w') ∧ K v w Qm := by
  obtain ⟨h1, h2⟩ := h
  refine ⟨_, fun w => ?_, h2⟩
  revert h1
  simp only [execOp]
  generalize opv N ρ x = v
  intro h1
  cases v with
  | pointer a => cases a <;> simp [okNil] at h1 ⊢
  | func f => cases f <;> simp [okNil] at h1 ⊢
  | _ => simp [okNil] at h1 ⊢

theorem Y_fa {s f k : Nat} {x : Operand} (ht : fOff P s f k = true) (h : fa k (opv N ρ x) K w Qm) :
    ∃ v, (∀ w', (execOp (opv N ρ) ⟨some d, .fieldAddr s x f, ty, pos, aft, g⟩).run P w' = .ok (.value v) w') ∧ K v w Qm := by
  obtain ⟨a, hx, hk⟩ := h
  refine ⟨_, fun w => ?_, hk⟩
  unfold fOff at ht
  split at ht
  · rename_i fs hu
    split at ht
    · rename_i fd hfd
      simp only [Bool.and_eq_true, beq_iff_eq] at ht
      obtain ⟨h1, h2⟩ := ht
      split at h2
      · rename_i i hi
        have hs : (sizeOf fd.type).run P w = .ok i.size w := by simp [sizeOf, typeInfo, hi]
        have h2' : ¬ i.size = 0 := by simpa using h2
        simp [execOp, hx, Instr.fieldAt, underlying, hu, hfd, Instr.sureAddr, fieldPlace, hs, h2', h1]
      · cases h2
    · cases ht
  · cases ht

theorem Y_ad {k : IntKind} {t t2 : TypeId} {x y : Operand} (h : ad k (opv N ρ x) (opv N ρ y) K w Qm) :
    ∃ v, (∀ w', (execOp (opv N ρ) ⟨some d, .binOp .add t x y t2, ty, pos, aft, g⟩).run P w' = .ok (.value v) w') ∧ K v w Qm := by
  obtain ⟨a, b, hx, hy, hk⟩ := h
  exact ⟨_, (fun w => by simp [execOp, hx, hy, eqGuard, binOp, Op.intArith]), hk⟩

theorem Y_su {k : IntKind} {t t2 : TypeId} {x y : Operand} (h : su k (opv N ρ x) (opv N ρ y) K w Qm) :
    ∃ v, (∀ w', (execOp (opv N ρ) ⟨some d, .binOp .sub t x y t2, ty, pos, aft, g⟩).run P w' = .ok (.value v) w') ∧ K v w Qm := by
  obtain ⟨a, b, hx, hy, hk⟩ := h
  exact ⟨_, (fun w => by simp [execOp, hx, hy, eqGuard, binOp, Op.intArith]), hk⟩

theorem Y_lt {k : IntKind} {t t2 : TypeId} {x y : Operand} (h : lt k (opv N ρ x) (opv N ρ y) K w Qm) :
    ∃ v, (∀ w', (execOp (opv N ρ) ⟨some d, .binOp .lss t x y t2, ty, pos, aft, g⟩).run P w' = .ok (.value v) w') ∧ K v w Qm := by
  obtain ⟨a, b, hx, hy, hk⟩ := h
  exact ⟨_, (fun w => by simp [execOp, hx, hy, eqGuard, binOp, Op.intCmp]), hk⟩

theorem Y_gt {k : IntKind} {t t2 : TypeId} {x y : Operand} (h : gt k (opv N ρ x) (opv N ρ y) K w Qm) :
    ∃ v, (∀ w', (execOp (opv N ρ) ⟨some d, .binOp .gtr t x y t2, ty, pos, aft, g⟩).run P w' = .ok (.value v) w') ∧ K v w Qm := by
  obtain ⟨a, b, hx, hy, hk⟩ := h
  exact ⟨_, (fun w => by simp [execOp, hx, hy, eqGuard, binOp, Op.intCmp, GT.gt]), hk⟩

theorem Y_nei {k : IntKind} {t t2 : TypeId} {x y : Operand} (h : nei k (opv N ρ x) (opv N ρ y) K w Qm) :
    ∃ v, (∀ w', (execOp (opv N ρ) ⟨some d, .binOp .neq t x y t2, ty, pos, aft, g⟩).run P w' = .ok (.value v) w') ∧ K v w Qm := by
  obtain ⟨a, b, hx, hy, hk⟩ := h
  refine ⟨_, fun w => ?_, hk⟩
  have e : (a != b) = decide (a ≠ b) := by by_cases h : a = b <;> simp [h]
  simp [execOp, hx, hy, eqGuard, binOp, Op.intCmp]
  rw [e]; simp

theorem Y_nt {t : TypeId} {x : Operand} (h : nt (opv N ρ x) K w Qm) :
    ∃ v, (∀ w', (execOp (opv N ρ) ⟨some d, .unOp .not t x, ty, pos, aft, g⟩).run P w' = .ok (.value v) w') ∧ K v w Qm := by
  obtain ⟨a, hx, hk⟩ := h
  exact ⟨_, (fun w => by simp [execOp, hx, Op.unary]), hk⟩

theorem Y_pk {x y z : Operand} (h : pk (opv N ρ x) (opv N ρ y) (opv N ρ z) K w Qm) :
    ∃ v, (∀ w', (execOp (opv N ρ) ⟨some d, .pick x y z, ty, pos, aft, g⟩).run P w' = .ok (.value v) w') ∧ K v w Qm := by
  obtain ⟨b, hx, hk⟩ := h
  refine ⟨_, fun w => ?_, hk⟩
  cases b <;> simp [execOp, hx, asBool]

theorem Y_ia {t : TypeId} {n : Nat} {x y : Operand} (ht : slE P t n = true) (h : ia n (opv N ρ x) (opv N ρ y) K w Qm) :
    ∃ v, (∀ w', (execOp (opv N ρ) ⟨some d, .indexAddr t x y, ty, pos, aft, g⟩).run P w' = .ok (.value v) w') ∧ K v w Qm := by
  obtain ⟨a, l, cp, k, j, hx, hy, h0, hl, hk⟩ := h
  refine ⟨_, fun w => ?_, hk⟩
  unfold slE at ht
  cases hu : P.underlying t with
  | none => simp [hu] at ht
  | some u =>
    cases u <;> simp [hu] at ht
    obtain ⟨i, hi, hs⟩ := ht
    simp [execOp, hx, hy, Instr.indexAt, asIntOf, underlying, hu, sizeOf, typeInfo, hi, hs, h0, hl]

def Kld (x v : Value) (w : World) : Prop := ∃ a, x = .pointer (some a) ∧ w.cell? a = some v
def Kldn (n : Nat) (x v : Value) (w : World) : Prop := ∃ a cs, x = .pointer (some a) ∧ cs.size = n ∧ rds w a cs ∧ v = .agg cs
theorem R_ld {t : TypeId} {x : Operand} (ht : isSc P t = true) (h : ld (opv N ρ x) K w Qm) :
    ∃ v, Kld (opv N ρ x) v w ∧ (∀ w', Kld (opv N ρ x) v w' → (execOp (opv N ρ) ⟨some d, .load t x, ty, pos, aft, g⟩).run P w' = .ok (.value v) w') ∧ K v w Qm := by
  obtain ⟨a, v, hx, hv, hk⟩ := h
  refine ⟨v, ⟨a, hx, hv⟩, fun w' hw => ?_, hk⟩
  obtain ⟨a', hx', hv'⟩ := hw
  rw [hx] at hx'; cases hx'
  simp [execOp, hx, Instr.loadAt, Instr.sureAddr, loadVar, run_isAgg_sc ht, hv']
theorem R_ldn {t : TypeId} {n : Nat} {x : Operand} (ht : isAg P t n = true) (h : ldn n (opv N ρ x) K w Qm) :
    ∃ v, Kldn n (opv N ρ x) v w ∧ (∀ w', Kldn n (opv N ρ x) v w' → (execOp (opv N ρ) ⟨some d, .load t x, ty, pos, aft, g⟩).run P w' = .ok (.value v) w') ∧ K v w Qm := by
  obtain ⟨a, cs, hx, hn, hv, hk⟩ := h
  refine ⟨.agg cs, ⟨a, cs, hx, hn, hv, rfl⟩, fun w' hw => ?_, hk⟩
  obtain ⟨a', cs', hx', hn', hv', e⟩ := hw
  rw [hx] at hx'; cases hx'; cases e
  have := run_loadCellsFrom_rds (P := P) hv' n 0 #[] (by omega)
  simp [execOp, hx, Instr.loadAt, Instr.sureAddr, loadVar, run_isAgg_ag ht, run_sizeOf_ag ht, loadCells, this]
/-- Whatever operation yields a value and leaves the world alone, told by its own run, in each world of which F holds. -/
def Ksm (P : Program) (s : Sem Value) (v : Value) (w : World) : Prop := s.run P w = .ok v w
def smr (P : Program) (s : Sem Value) (K : Value → M) : M := fun w Q => ∃ v, s.run P w = .ok v w ∧ K v w Q
theorem R_sm {op : Op} {s : Sem Value} (he : execOp (opv N ρ) ⟨some d, op, ty, pos, aft, g⟩ = (do pure (.value (← s)))) (h : smr P s K w Qm) :
    ∃ v, Ksm P s v w ∧ (∀ w', Ksm P s v w' → (execOp (opv N ρ) ⟨some d, op, ty, pos, aft, g⟩).run P w' = .ok (.value v) w') ∧ K v w Qm := by
  obtain ⟨v, hr, hk⟩ := h
  exact ⟨v, hr, fun w' hw => by rw [he]; simp [show s.run P w' = .ok v w' from hw], hk⟩
theorem P_smr {op : Op} {s : Sem Value} {next : Act → World → Prop} {Qx : Exit → Act → World → Prop} (he : execOp (opv N ρ) ⟨some d, op, ty, pos, aft, g⟩ = (do pure (.value (← s)))) (h : smr P s K w Qm) (c : ∀ v w', K v w' Qm → next (act N (upd ρ d v)) w') : Oper.wp P ⟨some d, op, ty, pos, aft, g⟩ (act N ρ) w next Qx := by
  obtain ⟨v, hr, hk⟩ := h
  exact wp_run (by rw [he]; simp [hr]) (c _ _ hk)
end
end Sh
end Go.Proofs.Ytiajdaagamhbnaa

namespace Go.Proofs.Ytiajdaagamhbnaa
namespace Sh
section
variable {P : Program} {N : Nat} {ρ : Nat → Value} {w : World} {d : Nat} {ty : TypeId} {pos : String} {aft : Array Edge} {g : Option (Nat × Bool)}
  {next : Act → World → Prop} {Qx : Exit → Act → World → Prop} {Qm : Value → World → Prop} {K : Value → M} {K0 : M}

theorem map_l (l : List Operand) : (l.toArray.map (opv N ρ)) = (l.map (opv N ρ)).toArray := by simp

theorem N_cc {fn : Func} {b : Code} {f : FuncId} {l : List Operand} {ts : Array TypeId} (hf : P.funcs[f]? = some fn) (hb : fn.body = some b) (hn : (fn.name == "runtime.NumGoroutine") = false)
    (h : cc P f (l.map (opv N ρ)).toArray K w Qm) (c : ∀ v w', K v w' Qm → next (act N (upd ρ d v)) w') : Oper.wp P ⟨some d, .call ⟨.value (.func f), l.toArray, ts⟩, ty, pos, aft, g⟩ (act N ρ) w next Qx :=
  P_cc hf hb hn (by rw [map_l]; exact h) c
theorem N_cl {fn : Func} {b : Code} {f : FuncId} {F : M} {l : List Operand} {ts : Array TypeId} (hf : P.funcs[f]? = some fn) (hb : fn.body = some b) (hn : (fn.name == "runtime.NumGoroutine") = false)
    (hs : ∀ w Q, F w Q → Calls P f (l.map (opv N ρ)).toArray w (Rt Q))
    (h : cl F K w Qm) (c : ∀ v w', K v w' Qm → next (act N (upd ρ d v)) w') : Oper.wp P ⟨some d, .call ⟨.value (.func f), l.toArray, ts⟩, ty, pos, aft, g⟩ (act N ρ) w next Qx :=
  P_cl hf hb hn (fun w Q hF => by rw [map_l]; exact hs w Q hF) h c
theorem N_cf {x : Operand} {l : List Operand} {ts : Array TypeId} (h : cf P (opv N ρ x) (l.map (opv N ρ)).toArray K w Qm) (c : ∀ v w', K v w' Qm → next (act N (upd ρ d v)) w') : Oper.wp P ⟨some d, .call ⟨.value x, l.toArray, ts⟩, ty, pos, aft, g⟩ (act N ρ) w next Qx :=
  P_cf (by rw [map_l]; exact h) c
theorem N_mf {fn : Fn} {l1 l2 : List Operand} (h : idv (.func fn (l1.map (opv N ρ)).toArray (l2.map (opv N ρ)).toArray) K w Qm) (c : ∀ v w', K v w' Qm → next (act N (upd ρ d v)) w') : Oper.wp P ⟨some d, .makeFunc fn l1.toArray l2.toArray, ty, pos, aft, g⟩ (act N ρ) w next Qx :=
  P_mf (by rw [map_l, map_l]; exact h) c
theorem map_p (l : List (Nat × Operand)) : (l.toArray.map fun (i, x) => (i, opv N ρ x)) = (l.map fun p => (p.1, opv N ρ p.2)).toArray := by simp
theorem N_bld {t : TypeId} {l : List (Nat × Operand)} (h : smr P (Instr.build t (l.map fun p => (p.1, opv N ρ p.2)).toArray) K w Qm) (c : ∀ v w', K v w' Qm → next (act N (upd ρ d v)) w') : Oper.wp P ⟨some d, .build t l.toArray, ty, pos, aft, g⟩ (act N ρ) w next Qx :=
  P_smr (by simp only [execOp]; rw [map_p]) h c
theorem N_bsl {t : TypeId} {n : Nat} {l : List (Nat × Operand)} (h : sm P (Instr.buildSlice t n (l.map fun p => (p.1, opv N ρ p.2)).toArray) K w Qm) (c : ∀ v w', K v w' Qm → next (act N (upd ρ d v)) w') : Oper.wp P ⟨some d, .buildSlice t n l.toArray, ty, pos, aft, g⟩ (act N ρ) w next Qx :=
  P_sm (by simp only [execOp]; rw [map_p]) h c
theorem exec_bi {dst : Option Tmp} {b : Builtin} {l : List Operand} {ts : Array TypeId} : execOp (opv N ρ) ⟨dst, .call ⟨.builtin b, l.toArray, ts⟩, ty, pos, aft, g⟩ = builtin b ts ty (l.toArray.map fun | .const _ => true | _ => false) (l.map (opv N ρ)).toArray := by
  simp [execOp, resolve, invoke]
  rfl
theorem N_bi {b : Builtin} {l : List Operand} {ts : Array TypeId} {s : Sem Value} (he : builtin b ts ty (l.toArray.map fun | .const _ => true | _ => false) (l.map (opv N ρ)).toArray = (do pure (.value (← s))))
    (h : sm P s K w Qm) (c : ∀ v w', K v w' Qm → next (act N (upd ρ d v)) w') : Oper.wp P ⟨some d, .call ⟨.builtin b, l.toArray, ts⟩, ty, pos, aft, g⟩ (act N ρ) w next Qx :=
  P_sm (by rw [exec_bi, he]) h c
theorem N_bin {b : Builtin} {l : List Operand} {ts : Array TypeId} {s : Sem Value} (he : builtin b ts ty (l.toArray.map fun | .const _ => true | _ => false) (l.map (opv N ρ)).toArray = (do pure (.value (← s))))
    (h : sm P s (fun _ => K0) w Qm) (c : ∀ w', K0 w' Qm → next (act N ρ) w') : Oper.wp P ⟨none, .call ⟨.builtin b, l.toArray, ts⟩, ty, pos, aft, g⟩ (act N ρ) w next Qx :=
  P_smn (by rw [exec_bi, he]) h c

/-! joins and loops -/
def jn {α : Type} (F : α → M) (k : α) : M := F k
def itr {α : Type} (b : α) (F : α → α) : Nat → α
  | 0 => b
  | n + 1 => F (itr b F n)
def lo {α : Type} (b : α) (F : α → α) (ap0 : α → M) : M := fun w Q => ∃ n, ap0 (itr b F n) w Q
theorem C_join {α : Type} {c : Code} (ap : α → (Nat → Value) → M) {F : α → M} {k : α} (h : jn F k w Qm)
    (hb : ∀ k', (∀ ρ w, ap k' ρ w Qm → Qx .normal (act N ρ) w) → F k' w Qm → c.wp P Qx (act N ρ) w)
    (hj : ∀ ρ w, ap k ρ w Qm → Qx .normal (act N ρ) w) : c.wp P Qx (act N ρ) w := hb k hj h
theorem C_blk {id : Nat} {c : Code} {a : Act} (h : c.wp P (Exit.inBlock id Qx) a w) : (Code.block id c).wp P Qx a w := wp_block h
theorem C_lo {α : Type} {c : Code} (ap : α → (Nat → Value) → M) {b : α} {F : α → α} (h : lo b F (fun l => ap l ρ) w Qm)
    (hbot : ∀ ρ w, ap b ρ w Qm → False)
    (round : ∀ (next : Act → World → Prop) (self : α), (∀ ρ w, ap self ρ w Qm → next (act N ρ) w) → ∀ ρ w, ap (F self) ρ w Qm → c.wp P (Exit.then next Qx) (act N ρ) w) :
    (Code.loop c).wp P Qx (act N ρ) w := by
  obtain ⟨n, h⟩ := h
  refine C_loop (fun n a w => ∃ ρ, a = act N ρ ∧ ap (itr b F n) ρ w Qm) (n := n) ⟨ρ, rfl, h⟩ ?_
  rintro n _ w ⟨ρ, rfl, h⟩
  cases n with
  | zero => exact (hbot _ _ h).elim
  | succ n => exact round _ (itr b F n) (fun ρ' w' h' => ⟨n, Nat.lt_succ_self n, ρ', rfl, h'⟩) ρ w h
theorem E_n {nx : Act → World → Prop} {a : Act} (h : nx a w) : Exit.then nx Qx .normal a w := h
theorem E_x {nx : Act → World → Prop} {a : Act} {id : Nat} (h : Qx (.exit id) a w) : Exit.then nx Qx (.exit id) a w := h
theorem B_n {a : Act} {id : Nat} (h : Qx .normal a w) : Exit.inBlock id Qx .normal a w := h
theorem B_x {a : Act} {id : Nat} (h : Qx .normal a w) : Exit.inBlock id Qx (.exit id) a w := by simp only [Exit.inBlock, if_true]; exact h
end
end Sh
end Go.Proofs.Ytiajdaagamhbnaa

namespace Go.Proofs.Ytiajdaagamhbnaa
namespace Sh
theorem kp_1 {F : World → Prop} {X : M} {w : World} {Q : Value → World → Prop} (h : kp F X w Q) : F w := h.1
theorem kp_2 {F : World → Prop} {X : M} {w : World} {Q : Value → World → Prop} (h : kp F X w Q) : X w Q := h.2
def dr (X : M) : M := fun w Q => X (drw w) Q
theorem dr_e {X : M} {w : World} {Q : Value → World → Prop} (h : dr X w Q) : X (drw w) Q := h
section
variable {P : Program} {N : Nat} {ρ : Nat → Value} {w : World} {Qm : Value → World → Prop} {K : Value → M}
def rvO (ρ : Nat → Value) (N : Nat) : ResultVar → Sem Value
  | .tmp t => pure (opv N ρ (.tmp t))
  | .cell a t => do loadVar t (← asAddr (opv N ρ (.tmp a)))
def oneOr : List Value → Value
  | [v] => v
  | vs => .tuple vs.toArray
def RS (P : Program) (N : Nat) (ρ : Nat → Value) (w : World) : List ResultVar → List Value → Prop
  | [], [] => True
  | r :: rs, v :: vs => (rvO ρ N r).run P w = .ok v w ∧ RS P N ρ w rs vs
  | _, _ => False
theorem rv_ldn {t : TypeId} {n a : Nat} (ht : isAg P t n = true) (h : ldn n (opv N ρ (.tmp a)) K w Qm) : ∃ v, (rvO ρ N (.cell a t)).run P w = .ok v w ∧ K v w Qm := by
  obtain ⟨b, cs, hx, hn, hv, hk⟩ := h
  refine ⟨_, ?_, hk⟩
  have := run_loadCellsFrom_rds (P := P) hv n 0 #[] (by omega)
  simp [rvO, hx, asAddr, loadVar, run_isAgg_ag ht, run_sizeOf_ag ht, loadCells, this]
theorem post_gen {fn : Func} {rs : List ResultVar} {vs : List Value} {e : Exit} (he : e = .normal ∨ e = .ret) (hr : fn.results = rs.toArray) (hs : RS P N ρ w rs vs)
    (h : Qm (oneOr vs) w) : bodyPost P fn (Rt Qm) e (act N ρ) w := by
  have hv : (results fn (act N ρ).tmps).run P w = .ok (oneOr vs) w := by
    obtain ⟨nm, og, tg, ps, rts, nf, nt, rs', bd, nr, ou, fi, el, ln, mt, tn⟩ := fn
    simp only at hr
    subst hr
    have h1 : results ⟨nm, og, tg, ps, rts, nf, nt, rs.toArray, bd, nr, ou, fi, el, ln, mt, tn⟩ (act N ρ).tmps = (do
      let vs ← rs.toArray.mapM (rvOf (act N ρ).tmps)
      pure (if h : vs.size = 1 then vs[0] else .tuple vs)) := rfl
    have h0 : rvOf (act N ρ).tmps = rvO ρ N := by
      funext r
      cases r with
      | tmp t => simp only [rvOf, rvO, tmps_act, opv]
      | cell a t => simp only [rvOf, rvO, tmps_act, opv]
    have hm : ∀ (rs : List ResultVar) (vs : List Value), RS P N ρ w rs vs → (rs.mapM (rvO ρ N)).run P w = .ok vs w := by
      intro rs
      induction rs with
      | nil => intro vs h; cases vs with
        | nil => rfl
        | cons v vs => exact h.elim
      | cons r rs ih => intro vs h; cases vs with
        | nil => exact h.elim
        | cons v vs => simp only [List.mapM_cons, Sem.run_bind, h.1, Result.andThen_ok, ih vs h.2, Sem.run_pure]
    rw [h1, h0, List.mapM_toArray]
    simp only [map_eq_pure_bind, bind_assoc, pure_bind, Sem.run_bind, hm rs vs hs, Result.andThen_ok, Sem.run_pure]
    match vs with
    | [] => rfl
    | [v] => rfl
    | a :: b :: r => rfl
  rcases he with rfl | rfl
  · exact ⟨rfl, _, hv, h⟩
  · exact ⟨rfl, _, hv, h⟩
theorem post_res {fn : Func} (rs : List ResultVar) {e : Exit} (he : e = .normal ∨ e = .ret) (hr : fn.results = rs.toArray) (h : ∃ vs, RS P N ρ w rs vs ∧ Qm (oneOr vs) w) : bodyPost P fn (Rt Qm) e (act N ρ) w := by
  obtain ⟨vs, hs, h⟩ := h
  exact post_gen he hr hs h
theorem res_ldn {rs : List ResultVar} (a : Nat) (t : TypeId) {n : Nat} (ht : isAg P t n = true) (h : ldn n (opv N ρ (.tmp a)) K w Qm)
    (c : ∀ v, (rvO ρ N (.cell a t)).run P w = .ok v w → K v w Qm → ∃ vs, RS P N ρ w rs vs ∧ Qm (oneOr vs) w) : ∃ vs, RS P N ρ w rs vs ∧ Qm (oneOr vs) w := by
  obtain ⟨v, hv, hk⟩ := rv_ldn ht h
  exact c v hv hk
end
end Sh
end Go.Proofs.Ytiajdaagamhbnaa

namespace Go.Proofs.Ytiajdaagamhbnaa
namespace Sh
section
variable {w : World} {Q : Value → World → Prop} {K : Value → M} {K0 A B : M} {k j : IntKind} {a b : Int} {x y v : Value}
theorem ad_e : ad k (.int k a) (.int k b) K w Q = K (.int k (k.wrap (a + b))) w Q := by simp [ad]
theorem su_e : su k (.int k a) (.int k b) K w Q = K (.int k (k.wrap (a - b))) w Q := by simp [su]
theorem mu_e : mu k (.int k a) (.int k b) K w Q = K (.int k (k.wrap (a * b))) w Q := by simp [mu]
theorem qu_e : qu k (.int k a) (.int k b) K w Q = (b ≠ 0 ∧ K (.int k (k.wrap (a.tdiv b))) w Q) := by simp [qu]
theorem re_e : re k (.int k a) (.int k b) K w Q = (b ≠ 0 ∧ K (.int k (a.tmod b)) w Q) := by simp [re]
theorem lt_e : lt k (.int k a) (.int k b) K w Q = K (.bool (decide (a < b))) w Q := by simp [lt]
theorem le_e : le k (.int k a) (.int k b) K w Q = K (.bool (decide (a ≤ b))) w Q := by simp [le]
theorem gt_e : gt k (.int k a) (.int k b) K w Q = K (.bool (decide (b < a))) w Q := by simp [gt]
theorem ge_e : ge k (.int k a) (.int k b) K w Q = K (.bool (decide (b ≤ a))) w Q := by simp [ge]
theorem eqi_e : eqi k (.int k a) (.int k b) K w Q = K (.bool (decide (a = b))) w Q := by simp [eqi]
theorem nei_e : nei k (.int k a) (.int k b) K w Q = K (.bool (decide (a ≠ b))) w Q := by simp [nei]
theorem shr_e : shr k j (.int k a) (.int j b) K w Q = (0 ≤ b ∧ K (.int k (a.fdiv (2 ^ (min b.toNat k.bits)))) w Q) := by simp [shr]
theorem cv_e : cv k (.int j a) K w Q = K (.int k (k.wrap a)) w Q := by
  unfold cv; apply propext; constructor
  · rintro ⟨k', a', h1, h⟩; cases h1; exact h
  · exact fun h => ⟨_, _, rfl, h⟩
theorem nt_e {t : Bool} : nt (.bool t) K w Q = K (.bool !t) w Q := by simp [nt]
theorem pk_e {t : Bool} : pk (.bool t) x y K w Q = K (bif t then x else y) w Q := by simp [pk]
theorem eqb_e {t u : Bool} : eqb (.bool t) (.bool u) K w Q = K (.bool (t == u)) w Q := by simp [eqb]
theorem neb_e {t u : Bool} : neb (.bool t) (.bool u) K w Q = K (.bool !(t == u)) w Q := by simp [neb]
theorem eqs_e {s t : ByteArray} : eqs (.string s) (.string t) K w Q = K (.bool (decide (s = t))) w Q := by simp [eqs]
theorem nes_e {s t : ByteArray} : nes (.string s) (.string t) K w Q = K (.bool (decide (s ≠ t))) w Q := by simp [nes]
theorem nc_e {p : Addr} : nc (.pointer (some p)) K w Q = K (.pointer (some p)) w Q := by simp [nc, okNil]
theorem fa_e {p : Addr} {n : Nat} : fa n (.pointer (some p)) K w Q = K (.pointer (some (p.add n))) w Q := by simp [fa]
theorem ld_e {p : Addr} : ld (.pointer (some p)) K w Q = ∃ v, w.cell? p = some v ∧ K v w Q := by simp [ld]
theorem st_e {p : Addr} : st (.pointer (some p)) v K0 w Q = ((w.cell? p).isSome = true ∧ w.frozen? p = false ∧ v.oneCell' = true ∧ K0 (w.setCell p v) Q) := by simp [st]
theorem al_e {t : TypeId} {cs : Array Value} : al t cs K w Q = K (.pointer (some ⟨w.heap.size, 0, none⟩)) (psh w (.cells cs t)) Q := rfl
theorem bx_e {t : TypeId} : bx t v K w Q = K (.pointer (some ⟨w.heap.size, 0, none⟩)) (psh w (.cells v.cells t)) Q := rfl
theorem ex_e {i : Nat} {vs : Array Value} : ex i (.tuple vs) K w Q = ∃ v, vs[i]? = some v ∧ K v w Q := by simp [ex]
theorem lnl_e {p : Option Addr} {l c : Nat} : lnl (.slice p l c) K w Q = K (.int .i64 l) w Q := by
  unfold lnl; apply propext; constructor
  · rintro ⟨p', l', c', h1, h⟩; cases h1; exact h
  · exact fun h => ⟨_, _, _, rfl, h⟩
theorem lns_e {s : ByteArray} : lns (.string s) K w Q = K (.int .i64 s.size) w Q := by simp [lns]
theorem ia_e {p : Addr} {n l c : Nat} : ia n (.slice (some p) l c) (.int k a) K w Q = (0 ≤ a ∧ a < l ∧ K (.pointer (some (p.add (a.toNat * n)))) w Q) := by
  unfold ia; apply propext; constructor
  · rintro ⟨p', l', c', k', j', h1, h2, h⟩; cases h1; cases h2; exact h
  · exact fun h => ⟨_, _, _, _, _, rfl, rfl, h⟩
theorem mif_e {t : TypeId} : mif t v K w Q = K (.iface t v) w Q := rfl
theorem mnm_e : mnm (.int k a) (.int k b) K w Q = K (.int k (if b < a then b else a)) w Q := by
  unfold mnm; apply propext; constructor
  · rintro ⟨k', a', b', h1, h2, h⟩; cases h1; cases h2; exact h
  · exact fun h => ⟨_, _, _, rfl, rfl, h⟩
theorem mxm_e : mxm (.int k a) (.int k b) K w Q = K (.int k (if a < b then b else a)) w Q := by
  unfold mxm; apply propext; constructor
  · rintro ⟨k', a', b', h1, h2, h⟩; cases h1; cases h2; exact h
  · exact fun h => ⟨_, _, _, rfl, rfl, h⟩
theorem asrt_e {t : TypeId} : asrt t (.iface t v) K w Q = K v w Q := by simp [asrt]
theorem idv_e : idv v K w Q = K v w Q := rfl
theorem cl_e {f : M} : cl f K w Q = f w (fun v w' => K v w' Q) := rfl
theorem cnd_e {t : Bool} : cnd (.bool t) A B w Q = (if t = true then A w Q else B w Q) := by cases t <;> simp [cnd]
theorem gd_e {t u : Bool} {A : (Value → M) → M} : gd (.bool t) u A K w Q = (if t = u then A K w Q else K undef w Q) := by
  cases t <;> cases u <;> simp [gd, gdB]
theorem gd_u {u : Bool} {A : (Value → M) → M} {K : Value → M} {w Q} : gd undef u A K w Q = K undef w Q := rfl
theorem gdu_e {t u : Bool} {A : M → M} : gdu (.bool t) u A K0 w Q = (if t = u then A K0 w Q else K0 w Q) := by
  cases t <;> cases u <;> simp [gdu, gdB]
theorem rt_e : rt v w Q = Q v w := rfl
theorem jn_e {α : Type} {F : α → M} {c : α} : jn F c w Q = F c w Q := rfl
theorem dr_q {X : M} : dr X w Q = X (drw w) Q := rfl
theorem kp_e {F : World → Prop} {X : M} : kp F X w Q = (F w ∧ X w Q) := rfl
theorem smr_e {P : Program} {s : Sem Value} : smr P s K w Q = ∃ v, s.run P w = .ok v w ∧ K v w Q := rfl
theorem Kld_e {p : Addr} : Kld (.pointer (some p)) v w = (w.cell? p = some v) := by simp [Kld]
theorem pk_t : pk (.bool true) x y K w Q = K x w Q := by simp [pk]
theorem pk_f : pk (.bool false) x y K w Q = K y w Q := by simp [pk]
theorem get4_0 {a b c d : Value} : (#[a, b, c, d] : Array Value)[0]? = some a := rfl
theorem get4_1 {a b c d : Value} : (#[a, b, c, d] : Array Value)[1]? = some b := rfl
theorem get4_2 {a b c d : Value} : (#[a, b, c, d] : Array Value)[2]? = some c := rfl
theorem get4_3 {a b c d : Value} : (#[a, b, c, d] : Array Value)[3]? = some d := rfl
theorem get3_0 {a b c : Value} : (#[a, b, c] : Array Value)[0]? = some a := rfl
theorem get3_1 {a b c : Value} : (#[a, b, c] : Array Value)[1]? = some b := rfl
theorem get3_2 {a b c : Value} : (#[a, b, c] : Array Value)[2]? = some c := rfl
theorem get2_0 {a b : Value} : (#[a, b] : Array Value)[0]? = some a := rfl
theorem get2_1 {a b : Value} : (#[a, b] : Array Value)[1]? = some b := rfl
theorem get1_0 {a : Value} : (#[a] : Array Value)[0]? = some a := rfl
end

/-! memory -/
section
variable {w : World} {o : Obj} {b n : Nat}
theorem size_setCell {p : Addr} {v : Value} : (w.setCell p v).heap.size = w.heap.size := by simp [World.setCell]
theorem blk_psh_new : (psh w o).heap[w.heap.size]? = some o := by
  show (w.heap.push o)[w.heap.size]? = some o
  simp
theorem blk_psh_old (h : b < w.heap.size) : (psh w o).heap[b]? = w.heap[b]? := by
  simp only [psh, Array.getElem?_push]; rw [if_neg (by omega)]
theorem cell_of_blk {c : Array Value} {t : TypeId} {fr : Nat × Nat} (h : w.heap[b]? = some (.cells c t fr)) : w.cell? ⟨b, n, none⟩ = c[n]? := by
  simp [World.cell?, h]
theorem cell_psh_new {c : Array Value} {t : TypeId} : (psh w (.cells c t)).cell? ⟨w.heap.size, n, none⟩ = c[n]? := cell_of_blk blk_psh_new
theorem cell_drw {p : Addr} : (drw w).cell? p = w.cell? p := rfl
theorem add_lit {m : Nat} : (⟨b, m, none⟩ : Addr).add n = ⟨b, m + n, none⟩ := by
  unfold Addr.add; by_cases h : n = 0
  · simp [h]
  · simp [h]
theorem rds_of_blk {c cs : Array Value} {t : TypeId} {fr : Nat × Nat} {m : Nat} (h : w.heap[b]? = some (.cells c t fr)) (hc : ∀ j v, cs[j]? = some v → c[m + j]? = some v) : rds w ⟨b, m, none⟩ cs := by
  intro j v hj
  rw [add_lit, cell_of_blk h]
  exact hc j v hj
/-- Below what was there the new world is as the old one. -/
theorem Below_psh {B : Nat} {a : World} (h : RowKit.Below B a w) (hB : B ≤ w.heap.size) : RowKit.Below B a (psh w o) :=
  h.trans ⟨rfl, rfl, rfl, by simp [psh], fun k hk => blk_psh_old (by omega)⟩
theorem Below_drw {B : Nat} {a : World} (h : RowKit.Below B a w) : RowKit.Below B a (drw w) := ⟨h.os, h.tape, h.output, h.size, h.block⟩
end
/-- the steps, all in one -/
theorem LL : type_of% (And.intro @bx_e (And.intro @al_e (And.intro @fa_e (And.intro @ld_e (And.intro @ad_e (And.intro @su_e (And.intro @mu_e (And.intro @lt_e (And.intro @le_e (And.intro @gt_e (And.intro @ge_e (And.intro @eqi_e (And.intro @nei_e (And.intro @qu_e (And.intro @re_e (And.intro @cv_e (And.intro @nt_e (And.intro @pk_t (And.intro @pk_f (And.intro @pk_e (And.intro @eqb_e (And.intro @neb_e (And.intro @nc_e (And.intro @ex_e (And.intro @lnl_e (And.intro @lns_e (And.intro @idv_e (And.intro @cl_e (And.intro @cnd_e (And.intro @gd_e (And.intro @gd_u (And.intro @gdu_e (And.intro @rt_e (And.intro @jn_e (And.intro @dr_q (And.intro @kp_e (And.intro @mnm_e (And.intro @mxm_e (And.intro @mif_e (And.intro @asrt_e (And.intro @eqs_e (@nes_e)))))))))))))))))))))))))))))))))))))))))) := And.intro @bx_e (And.intro @al_e (And.intro @fa_e (And.intro @ld_e (And.intro @ad_e (And.intro @su_e (And.intro @mu_e (And.intro @lt_e (And.intro @le_e (And.intro @gt_e (And.intro @ge_e (And.intro @eqi_e (And.intro @nei_e (And.intro @qu_e (And.intro @re_e (And.intro @cv_e (And.intro @nt_e (And.intro @pk_t (And.intro @pk_f (And.intro @pk_e (And.intro @eqb_e (And.intro @neb_e (And.intro @nc_e (And.intro @ex_e (And.intro @lnl_e (And.intro @lns_e (And.intro @idv_e (And.intro @cl_e (And.intro @cnd_e (And.intro @gd_e (And.intro @gd_u (And.intro @gdu_e (And.intro @rt_e (And.intro @jn_e (And.intro @dr_q (And.intro @kp_e (And.intro @mnm_e (And.intro @mxm_e (And.intro @mif_e (And.intro @asrt_e (And.intro @eqs_e (@nes_e)))))))))))))))))))))))))))))))))))))))))
/-- what is plain, all in one -/
theorem LM : type_of% (And.intro @add_lit (And.intro @cell_psh_new (And.intro @cell_drw (And.intro @get4_0 (And.intro @get4_1 (And.intro @get4_2 (And.intro @get4_3 (And.intro @get3_0 (And.intro @get3_1 (And.intro @get3_2 (And.intro @get2_0 (And.intro @get2_1 (And.intro @get1_0 (And.intro @Nat.zero_add (And.intro @Bool.not_true (And.intro @Bool.not_false (And.intro @Bool.false_eq_true (And.intro @Bool.true_eq_false (And.intro @decide_eq_true_eq (And.intro @Bool.not_eq_true' (And.intro @decide_eq_false_iff_not (And.intro @not_false_eq_true (And.intro @not_true_eq_false (And.intro @Bool.true_and (And.intro @Bool.and_true (And.intro @Bool.false_and (And.intro @Bool.and_false (@decide_not)))))))))))))))))))))))))))) := And.intro @add_lit (And.intro @cell_psh_new (And.intro @cell_drw (And.intro @get4_0 (And.intro @get4_1 (And.intro @get4_2 (And.intro @get4_3 (And.intro @get3_0 (And.intro @get3_1 (And.intro @get3_2 (And.intro @get2_0 (And.intro @get2_1 (And.intro @get1_0 (And.intro @Nat.zero_add (And.intro @Bool.not_true (And.intro @Bool.not_false (And.intro @Bool.false_eq_true (And.intro @Bool.true_eq_false (And.intro @decide_eq_true_eq (And.intro @Bool.not_eq_true' (And.intro @decide_eq_false_iff_not (And.intro @not_false_eq_true (And.intro @not_true_eq_false (And.intro @Bool.true_and (And.intro @Bool.and_true (And.intro @Bool.false_and (And.intro @Bool.and_false (@decide_not)))))))))))))))))))))))))))
end Sh
end Go.Proofs.Ytiajdaagamhbnaa

namespace Go.Proofs.Ytiajdaagamhbnaa
namespace Sh
open RowKit
/-- What the tables say of a slice type T with elements E: their zero, cells, bytes. -/
def slT (P : Program) (t e : TypeId) (z : Value) (size bytes : Nat) : Prop :=
  P.underlying t = some (.slice e) ∧ (P.info? e).map (fun i => (i.zero, i.size, i.bytes)) = some (some z, size, bytes)
theorem slT_info {P : Program} {t e : TypeId} {z : Value} {size bytes : Nat} (h : slT P t e z size bytes) : ∃ i, P.underlying t = some (.slice e) ∧ P.info? e = some i ∧ i.zero = some z ∧ i.size = size ∧ i.bytes = bytes := by
  obtain ⟨h1, h2⟩ := h
  cases hi : P.info? e with
  | none => simp [hi] at h2
  | some i => simp [hi] at h2; exact ⟨i, h1, rfl, h2.1, h2.2.1, h2.2.2⟩
section
variable {P : Program} {w : World} {Q : Value → World → Prop} {K : Value → M} {B : Nat}
end
/-- a slice of whole numbers, the call's own -/
def ownI (B : Nat) (e : TypeId) (k : IntKind) (w : World) (v : Value) (l : List Int) : Prop := w.ownsRow B e 1 v l.length (l.map (Value.int k))
theorem ownI_len {B : Nat} {e : TypeId} {k : IntKind} {w : World} {v : Value} {l : List Int} (h : ownI B e k w v l) : ∃ p c, v = .slice p l.length c ∧ (l ≠ [] → ∃ g, p = some ⟨g, 0, none⟩ ∧ B ≤ g ∧ g < w.heap.size) := by
  obtain ⟨h1, h2⟩ := h
  rcases h2 with ⟨rfl, h0⟩ | ⟨g, cap, cur, rfl, hg, hb, hn, hm, hs, ht⟩
  · exact ⟨none, 0, by rw [h0], fun hne => absurd (List.length_eq_zero_iff.1 h0) hne⟩
  · refine ⟨_, _, rfl, fun _ => ⟨g, rfl, hg, ?_⟩⟩
    rcases Nat.lt_or_ge g w.heap.size with h | h
    · exact h
    · simp [Array.getElem?_eq_none h] at hb
theorem ownI_cell {B : Nat} {e : TypeId} {k : IntKind} {w : World} {g c : Nat} {l : List Int} (h : ownI B e k w (.slice (some ⟨g, 0, none⟩) l.length c) l) (i : Nat) (hi : i < l.length) :
    w.cell? ⟨g, i, none⟩ = some (.int k l[i]) := by
  have := World.ownsRow.cellAt h i (by simpa using hi)
  rw [this]; simp [hi]
theorem w64 {x : Int} (h0 : -9223372036854775808 ≤ x) (h1 : x ≤ 9223372036854775807) : IntKind.i64.wrap x = x := by
  unfold IntKind.wrap
  simp [IntKind.signed, IntKind.bits]
  omega
theorem wu64 {x : Int} (h0 : 0 ≤ x) (h1 : x ≤ 18446744073709551615) : IntKind.u64.wrap x = x := by
  unfold IntKind.wrap
  simp [IntKind.signed, IntKind.bits]
  omega
/-- a slice that reads as whole numbers -/
def rdI (k : IntKind) (w : World) (v : Value) (l : List Int) : Prop :=
  ∃ p c, v = .slice p l.length c ∧ ∀ i (h : i < l.length), ∃ a, p = some a ∧ w.cell? (a.add i) = some (.int k l[i])
theorem ownI_rd {B : Nat} {e : TypeId} {k : IntKind} {w : World} {v : Value} {l : List Int} (h : ownI B e k w v l) : rdI k w v l := by
  obtain ⟨p, c, rfl, hp⟩ := ownI_len h
  refine ⟨p, c, rfl, fun i hi => ?_⟩
  obtain ⟨g, rfl, hB, hs⟩ := hp (fun e => by rw [e] at hi; simp at hi)
  refine ⟨_, rfl, ?_⟩
  rw [add_lit, Nat.zero_add]
  exact ownI_cell h i hi
theorem cell_lt {w : World} {a : Addr} {v : Value} (h : w.cell? a = some v) : a.block < w.heap.size := by
  unfold World.cell? at h
  rcases Nat.lt_or_ge a.block w.heap.size with h' | h'
  · exact h'
  · simp [Array.getElem?_eq_none h'] at h
theorem cell_below {w w' : World} {a : Addr} {v : Value} (hb : Below w.heap.size w w') (h : w.cell? a = some v) : w'.cell? a = some v := by
  rw [hb.cell (cell_lt h)]; exact h
theorem rdI_below {k : IntKind} {w w' : World} {v : Value} {l : List Int} (hb : Below w.heap.size w w') (h : rdI k w v l) : rdI k w' v l := by
  obtain ⟨p, c, rfl, h⟩ := h
  refine ⟨p, c, rfl, fun i hi => ?_⟩
  obtain ⟨a, ha, hc⟩ := h i hi
  exact ⟨a, ha, cell_below hb hc⟩
theorem ia_ld {k j : IntKind} {w : World} {v : Value} {l : List Int} {i : Int} {K : Value → M} {Q : Value → World → Prop} (h : rdI k w v l) (h0 : 0 ≤ i) (h1 : i < l.length)
    (kk : ∀ (hh : i.toNat < l.length), K (.int k l[i.toNat]) w Q) : ia 1 v (.int j i) (fun p => ld p K) w Q := by
  obtain ⟨p, c, rfl, h⟩ := h
  obtain ⟨a, rfl, hc⟩ := h i.toNat (by omega)
  rw [ia_e]
  refine ⟨h0, h1, ?_⟩
  rw [Nat.mul_one, ld_e]
  exact ⟨_, hc, kk (by omega)⟩
theorem lnl_rd {k : IntKind} {w w1 : World} {v : Value} {l : List Int} {K : Value → M} {Q : Value → World → Prop} (h : rdI k w v l) (kk : K (.int .i64 l.length) w1 Q) : lnl v K w1 Q := by
  obtain ⟨p, c, rfl, h⟩ := h
  rw [lnl_e]; exact kk
/-! stores of several cells -/
theorem blk_setCell {w : World} {b o : Nat} {c : Array Value} {t : TypeId} {fr : Nat × Nat} {v : Value} (h : w.heap[b]? = some (.cells c t fr)) : (w.setCell ⟨b, o, none⟩ v).heap[b]? = some (.cells (c.setIfInBounds o v) t fr) := by
  simp [World.setCell, Array.getElem?_modify, h]
theorem blk_setCell_ne {w : World} {a : Addr} {k : Nat} {v : Value} (h : k ≠ a.block) : (w.setCell a v).heap[k]? = w.heap[k]? := Below.heap_setCell w a v k h
theorem frozen_zero {w : World} {b o : Nat} {c : Array Value} {t : TypeId} (h : w.heap[b]? = some (.cells c t (0, 0))) : w.frozen? ⟨b, o, none⟩ = false := by
  simp [World.frozen?, h]
structure Upd (b : Nat) (w w' : World) : Prop where
  os : w'.os = w.os
  tape : w'.tape = w.tape
  output : w'.output = w.output
  size : w'.heap.size = w.heap.size
  block : ∀ k, k ≠ b → w'.heap[k]? = w.heap[k]?
theorem Upd.below {b B : Nat} {w w' : World} (h : Upd b w w') (hB : B ≤ b) : Below B w w' := ⟨h.os, h.tape, h.output, by rw [h.size]; exact Nat.le_refl _, fun k hk => h.block k (by omega)⟩
theorem sts_blk {b o : Nat} {t : TypeId} : ∀ (l : List Value) (i : Nat) (w : World) (c : Array Value), w.heap[b]? = some (.cells c t (0, 0)) → o + i + l.length ≤ c.size → (∀ v ∈ l, v.oneCell' = true) →
    ∃ w' c', sts w ⟨b, o, none⟩ l i = some w' ∧ w'.heap[b]? = some (.cells c' t (0, 0)) ∧ c'.toList = c.toList.take (o + i) ++ l ++ c.toList.drop (o + i + l.length) ∧ Upd b w w' := by
  intro l
  induction l with
  | nil => intro i w c h hs h1; exact ⟨w, c, rfl, h, by simp, rfl, rfl, rfl, rfl, fun _ _ => rfl⟩
  | cons v l ih =>
    intro i w c h hs h1
    simp only [List.length_cons] at hs
    have hc : (w.cell? ⟨b, o + i, none⟩).isSome = true := by rw [cell_of_blk h]; simp; omega
    have hf : w.frozen? ⟨b, o + i, none⟩ = false := frozen_zero h
    have hv := h1 v (by simp)
    obtain ⟨w', c', e1, e2, e3, e4⟩ := ih (i + 1) (w.setCell ⟨b, o + i, none⟩ v) _ (blk_setCell h) (by simp; omega) (fun u hu => h1 u (by simp [hu]))
    refine ⟨w', c', ?_, e2, ?_, ?_⟩
    · simp only [sts, add_lit, hc, hf, hv, Bool.not_false, Bool.and_self, if_true]
      exact e1
    · rw [e3]
      simp only [Array.toList_setIfInBounds, List.length_cons]
      have hlt : o + i < c.toList.length := by simp; omega
      have q1 : (c.toList.set (o + i) v).take (o + (i + 1)) = c.toList.take (o + i) ++ [v] := by
        rw [← Nat.add_assoc, List.take_succ_eq_append_getElem (by simpa using hlt)]
        simp [List.take_set]
        rw [List.set_eq_of_length_le (by simp; omega)]
      have q2 : (c.toList.set (o + i) v).drop (o + (i + 1) + l.length) = c.toList.drop (o + i + (l.length + 1)) := by
        rw [List.drop_set_of_lt (by omega)]; congr 1; omega
      rw [q1, q2]; simp
    · exact ⟨e4.os, e4.tape, e4.output, by rw [e4.size, size_setCell], fun k hk => by rw [e4.block k hk]; exact blk_setCell_ne hk⟩
/-- a whole block stored anew -/
theorem stn_box {n b : Nat} {w : World} {c cs : Array Value} {t : TypeId} {K0 : M} {Q : Value → World → Prop} (h : w.heap[b]? = some (.cells c t (0, 0))) (hc : c.size = n) (hn : cs.size = n) (h1 : ∀ v ∈ cs.toList, v.oneCell' = true)
    (k : ∀ w', w'.heap[b]? = some (.cells cs t (0, 0)) → Upd b w w' → K0 w' Q) : stn n (.pointer (some ⟨b, 0, none⟩)) (.agg cs) K0 w Q := by
  obtain ⟨w', c', e1, e2, e3, e4⟩ := sts_blk (o := 0) cs.toList 0 w c h (by simp; omega) h1
  refine ⟨_, cs, w', rfl, rfl, hn, e1, k w' ?_ e4⟩
  have : c' = cs := by
    apply Array.ext'
    rw [e3]
    simp [hn, hc]
  rw [← this]; exact e2
theorem zero_run {P : Program} {t : TypeId} {z : Value} (hz : zeroIs P t z) (w : World) : (zeroValue t).run P w = .ok z w := by
  unfold zeroIs at hz
  cases hu : P.info? t with
  | none => simp [hu] at hz
  | some i => simp [hu] at hz; simp [zeroValue, typeInfo, hu, hz]
end Sh
end Go.Proofs.Ytiajdaagamhbnaa

set_option maxRecDepth 20000
set_option maxHeartbeats 4000000
namespace Go.Proofs.Ytiajdaagamhbnaa
open Sh
attribute [local irreducible] wpL anyG act jn lo gdB amb kp smr nc fa ld ldn st stn ad su mu qu re lt le gt ge eqi nei bws shl shr cat eqs nes lts gts eqb neb nt pk cv al bx ex fld fldn lnl lns ia iaa ixs sls sll sla mif mnm mxm mm asrt sm smu cl cc cf ci cnd gd gdu
theorem ag28 : isAg Try.prog 28 6 = true := by kernel_rfl
theorem ag55 : isAg Try.prog 55 14 = true := by kernel_rfl
theorem ag57 : isAg Try.prog 57 6 = true := by kernel_rfl
theorem ai3 : (match Program.underlying Try.prog 3 with | some (.int _) => true | _ => false) = true := by kernel_rfl
theorem ai92 : (match Program.underlying Try.prog 92 with | some (.int _) => true | _ => false) = true := by kernel_rfl
theorem fo28_0 : fOff Try.prog 28 0 0 = true := by kernel_rfl
theorem fo28_1 : fOff Try.prog 28 1 1 = true := by kernel_rfl
theorem fo28_2 : fOff Try.prog 28 2 2 = true := by kernel_rfl
theorem fo28_3 : fOff Try.prog 28 3 3 = true := by kernel_rfl
theorem fo28_4 : fOff Try.prog 28 4 4 = true := by kernel_rfl
theorem fo28_5 : fOff Try.prog 28 5 5 = true := by kernel_rfl
theorem fo31_1 : fOff Try.prog 31 1 1 = true := by kernel_rfl
theorem fo55_0 : fOff Try.prog 55 0 0 = true := by kernel_rfl
theorem fo55_1 : fOff Try.prog 55 1 1 = true := by kernel_rfl
theorem fo55_3 : fOff Try.prog 55 3 5 = true := by kernel_rfl
theorem fo55_4 : fOff Try.prog 55 4 6 = true := by kernel_rfl
theorem fo57_0 : fOff Try.prog 57 0 0 = true := by kernel_rfl
theorem fo57_1 : fOff Try.prog 57 1 1 = true := by kernel_rfl
theorem in3 : isInt Try.prog 3 .i64 = true := by kernel_rfl
theorem in92 : isInt Try.prog 92 .u64 = true := by kernel_rfl
theorem is22 : isSl Try.prog 22 = true := by kernel_rfl
theorem is25 : isSl Try.prog 25 = true := by kernel_rfl
theorem is34 : isSl Try.prog 34 = true := by kernel_rfl
theorem is44 : isSl Try.prog 44 = true := by kernel_rfl
theorem on3 : isOne Try.prog 3 = true := by kernel_rfl
theorem sc3 : isSc Try.prog 3 = true := by kernel_rfl
theorem se22 : slE Try.prog 22 14 = true := by kernel_rfl
theorem se25 : slE Try.prog 25 7 = true := by kernel_rfl
theorem se34 : slE Try.prog 34 1 = true := by kernel_rfl
theorem se44 : slE Try.prog 44 6 = true := by kernel_rfl
theorem ze28 : zeroIs Try.prog 28 (.agg #[(.int .i64 0), (.int .i64 0), (.int .i64 0), (.int .i64 0), (.int .i64 0), (.int .i64 0)]) := by unfold zeroIs; kernel_rfl
theorem ze55 : zeroIs Try.prog 55 (.agg #[(.int .i64 0), (.int .i64 0), (.int .i64 0), (.int .i64 0), (.string ⟨#[]⟩), (.int .i64 0), (.int .i64 0), (.int .i64 0), (.int .i64 0), (.int .i64 0), (.string ⟨#[]⟩), (.int .i64 0), (.slice none 0 0), (.bool false)]) := by unfold zeroIs; kernel_rfl
theorem ze57 : zeroIs Try.prog 57 (.agg #[(.int .i64 0), (.int .i64 0), (.int .i64 0), (.int .i64 0), (.int .i64 0), (.string ⟨#[]⟩)]) := by unfold zeroIs; kernel_rfl
theorem slt22 : slT Try.prog 22 55 (.agg #[(.int .i64 0), (.int .i64 0), (.int .i64 0), (.int .i64 0), (.string ⟨#[]⟩), (.int .i64 0), (.int .i64 0), (.int .i64 0), (.int .i64 0), (.int .i64 0), (.string ⟨#[]⟩), (.int .i64 0), (.slice none 0 0), (.bool false)]) 14 144 := ⟨by kernel_rfl, by kernel_rfl⟩
theorem slt25 : slT Try.prog 25 31 (.agg #[(.int .i64 0), (.int .i64 0), (.int .i64 0), (.int .i64 0), (.int .i64 0), (.int .i64 0), (.int .i64 0)]) 7 56 := ⟨by kernel_rfl, by kernel_rfl⟩
theorem slt34 : slT Try.prog 34 3 (.int .i64 0) 1 8 := ⟨by kernel_rfl, by kernel_rfl⟩
theorem slt44 : slT Try.prog 44 57 (.agg #[(.int .i64 0), (.int .i64 0), (.int .i64 0), (.int .i64 0), (.int .i64 0), (.string ⟨#[]⟩)]) 6 56 := ⟨by kernel_rfl, by kernel_rfl⟩
theorem nn7 : (Try.f7.name == "runtime.NumGoroutine") = false := by kernel_rfl
theorem nn8 : (Try.f8.name == "runtime.NumGoroutine") = false := by kernel_rfl
theorem nn9 : (Try.f9.name == "runtime.NumGoroutine") = false := by kernel_rfl
theorem nn10 : (Try.f10.name == "runtime.NumGoroutine") = false := by kernel_rfl
theorem nn11 : (Try.f11.name == "runtime.NumGoroutine") = false := by kernel_rfl
theorem nn19 : (Try.f19.name == "runtime.NumGoroutine") = false := by kernel_rfl
theorem nn22 : (Try.f22.name == "runtime.NumGoroutine") = false := by kernel_rfl
theorem nn24 : (Try.f24.name == "runtime.NumGoroutine") = false := by kernel_rfl
theorem nn25 : (Try.f25.name == "runtime.NumGoroutine") = false := by kernel_rfl
theorem nn26 : (Try.f26.name == "runtime.NumGoroutine") = false := by kernel_rfl
theorem nn27 : (Try.f27.name == "runtime.NumGoroutine") = false := by kernel_rfl
theorem nn29 : (Try.f29.name == "runtime.NumGoroutine") = false := by kernel_rfl
theorem nn35 : (Try.f35.name == "runtime.NumGoroutine") = false := by kernel_rfl
theorem nn37 : (Try.f37.name == "runtime.NumGoroutine") = false := by kernel_rfl
theorem nn38 : (Try.f38.name == "runtime.NumGoroutine") = false := by kernel_rfl
theorem nn39 : (Try.f39.name == "runtime.NumGoroutine") = false := by kernel_rfl
theorem nn40 : (Try.f40.name == "runtime.NumGoroutine") = false := by kernel_rfl
theorem nn42 : (Try.f42.name == "runtime.NumGoroutine") = false := by kernel_rfl
theorem nn50 : (Try.f50.name == "runtime.NumGoroutine") = false := by kernel_rfl
theorem nn51 : (Try.f51.name == "runtime.NumGoroutine") = false := by kernel_rfl
theorem nn52 : (Try.f52.name == "runtime.NumGoroutine") = false := by kernel_rfl
theorem nn53 : (Try.f53.name == "runtime.NumGoroutine") = false := by kernel_rfl
theorem nn58 : (Try.f58.name == "runtime.NumGoroutine") = false := by kernel_rfl
theorem nn59 : (Try.f59.name == "runtime.NumGoroutine") = false := by kernel_rfl
theorem nn60 : (Try.f60.name == "runtime.NumGoroutine") = false := by kernel_rfl
theorem nn61 : (Try.f61.name == "runtime.NumGoroutine") = false := by kernel_rfl
theorem nn73 : (Try.f73.name == "runtime.NumGoroutine") = false := by kernel_rfl
theorem nn74 : (Try.f74.name == "runtime.NumGoroutine") = false := by kernel_rfl
theorem nn80 : (Try.f80.name == "runtime.NumGoroutine") = false := by kernel_rfl
theorem nn81 : (Try.f81.name == "runtime.NumGoroutine") = false := by kernel_rfl
end Go.Proofs.Ytiajdaagamhbnaa

set_option maxRecDepth 20000
set_option maxHeartbeats 4000000
namespace Go.Proofs.Ytiajdaagamhbnaa
open Sh
attribute [local irreducible] wpL anyG act jn lo gdB amb kp smr nc fa ld ldn st stn ad su mu qu re lt le gt ge eqi nei bws shl shr cat eqs nes lts gts eqb neb nt pk cv al bx ex fld fldn lnl lns ia iaa ixs sls sll sla mif mnm mxm mm asrt sm smu cl cc cf ci cnd gd gdu
def f27 (t0 t1 : Value) : M := eqi .i64 t1 (.int .i64 1) fun t7 => cnd t7 ( nc t0 fun t9 => fa 0 t9 fun t10 => rt t10 ) ( eqi .i64 t1 (.int .i64 2) fun t12 => cnd t12 ( nc t0 fun t14 => fa 1 t14 fun t15 => rt t15 ) ( eqi .i64 t1 (.int .i64 3) fun t17 => cnd t17 ( nc t0 fun t19 => fa 2 t19 fun t20 => rt t20 ) ( eqi .i64 t1 (.int .i64 4) fun t22 => cnd t22 ( nc t0 fun t24 => fa 3 t24 fun t25 => rt t25 ) ( eqi .i64 t1 (.int .i64 5) fun t27 => cnd t27 ( nc t0 fun t29 => fa 4 t29 fun t30 => rt t30 ) ( rt (.pointer none) ) ) ) ) )
theorem s27 (t0 t1 : Value) (w : World) (Q : Value → World → Prop) (h : f27 t0 t1 w Q) : Calls Try.prog 27 #[t0, t1] w (Rt Q) := by
  refine calls_of (l := [t0, t1]) Try.func27 rfl Try.ntmps27 (Nat.le_of_ble_eq_true rfl) ?_
  unfold f27 at h
  refine wp_seq ?_
  refine L_region ?_
  refine L_as ?_
  refine L_nil ?_
  refine E_n ?_
  refine wp_seq ?_
  refine wp_seq ?_
  refine L_region ?_
  refine L_mv ?_
  refine L_nil ?_
  refine E_n ?_
  refine C_blk ?_
  refine wp_seq ?_
  refine L_region ?_
  refine L_u (P_eqi h) ?_
  intro v w h
  refine L_as ?_
  refine L_nil ?_
  refine E_n ?_
  refine C_cnd h (fun h => ?_) (fun h => ?_)
  · refine wp_seq ?_
    refine L_region ?_
    refine L_mv ?_
    refine L_u (P_nc h) ?_
    intro v w h
    refine L_u (P_fa fo28_0 h) ?_
    intro v w h
    refine L_as ?_
    refine L_nil ?_
    refine E_n ?_
    refine C_ret ?_
    show bodyPost Try.prog Try.f27 (Rt Q) .ret _ _
    exact post_tmps (ts := [4]) (.inr rfl) rfl h
  · refine wp_seq ?_
    refine L_region ?_
    refine L_u (P_eqi h) ?_
    intro v w h
    refine L_as ?_
    refine L_nil ?_
    refine E_n ?_
    refine C_cnd h (fun h => ?_) (fun h => ?_)
    · refine wp_seq ?_
      refine L_region ?_
      refine L_mv ?_
      refine L_u (P_nc h) ?_
      intro v w h
      refine L_u (P_fa fo28_1 h) ?_
      intro v w h
      refine L_as ?_
      refine L_nil ?_
      refine E_n ?_
      refine C_ret ?_
      show bodyPost Try.prog Try.f27 (Rt Q) .ret _ _
      exact post_tmps (ts := [4]) (.inr rfl) rfl h
    · refine wp_seq ?_
      refine L_region ?_
      refine L_u (P_eqi h) ?_
      intro v w h
      refine L_as ?_
      refine L_nil ?_
      refine E_n ?_
      refine C_cnd h (fun h => ?_) (fun h => ?_)
      · refine wp_seq ?_
        refine L_region ?_
        refine L_mv ?_
        refine L_u (P_nc h) ?_
        intro v w h
        refine L_u (P_fa fo28_2 h) ?_
        intro v w h
        refine L_as ?_
        refine L_nil ?_
        refine E_n ?_
        refine C_ret ?_
        show bodyPost Try.prog Try.f27 (Rt Q) .ret _ _
        exact post_tmps (ts := [4]) (.inr rfl) rfl h
      · refine wp_seq ?_
        refine L_region ?_
        refine L_u (P_eqi h) ?_
        intro v w h
        refine L_as ?_
        refine L_nil ?_
        refine E_n ?_
        refine C_cnd h (fun h => ?_) (fun h => ?_)
        · refine wp_seq ?_
          refine L_region ?_
          refine L_mv ?_
          refine L_u (P_nc h) ?_
          intro v w h
          refine L_u (P_fa fo28_3 h) ?_
          intro v w h
          refine L_as ?_
          refine L_nil ?_
          refine E_n ?_
          refine C_ret ?_
          show bodyPost Try.prog Try.f27 (Rt Q) .ret _ _
          exact post_tmps (ts := [4]) (.inr rfl) rfl h
        · refine wp_seq ?_
          refine L_region ?_
          refine L_u (P_eqi h) ?_
          intro v w h
          refine L_as ?_
          refine L_nil ?_
          refine E_n ?_
          refine C_cnd h (fun h => ?_) (fun h => ?_)
          · refine wp_seq ?_
            refine L_region ?_
            refine L_mv ?_
            refine L_u (P_nc h) ?_
            intro v w h
            refine L_u (P_fa fo28_4 h) ?_
            intro v w h
            refine L_as ?_
            refine L_nil ?_
            refine E_n ?_
            refine C_ret ?_
            show bodyPost Try.prog Try.f27 (Rt Q) .ret _ _
            exact post_tmps (ts := [4]) (.inr rfl) rfl h
          · refine C_skip ?_
            refine B_n ?_
            refine E_n ?_
            refine wp_seq ?_
            refine L_region ?_
            refine L_as ?_
            refine L_nil ?_
            refine E_n ?_
            refine C_ret ?_
            show bodyPost Try.prog Try.f27 (Rt Q) .ret _ _
            exact post_tmps (ts := [4]) (.inr rfl) rfl h

def f24 (t0 t1 : Value) : M := bx 55 t1 fun t3 => fa 5 t3 fun t6 => ld t6 fun t7 => cl (f27 t0 t7) fun t8 => smr Try.prog (do eqGuard .neq 64 (.tmp 9) (.const (.pointer none)) t8 (.pointer none); binOp .neq 64 t8 (.pointer none)) fun t10 => cnd t10 ( nc t8 fun t12 => ld t12 fun t13 => ad .i64 t13 (.int .i64 1) fun t14 => nc t8 fun t15 => st t15 t14 <| dr <| idv t0 fun t16 => nc t16 fun t17 => fa 5 t17 fun t18 => ld t18 fun t19 => fa 6 t3 fun t20 => ld t20 fun t21 => ad .i64 t19 t21 fun t22 => nc t16 fun t23 => fa 5 t23 fun t24 => st t24 t22 <| rt (.tuple #[]) ) ( rt (.tuple #[]) )
theorem s24 (t0 t1 : Value) (w : World) (Q : Value → World → Prop) (h : f24 t0 t1 w Q) : Calls Try.prog 24 #[t0, t1] w (Rt Q) := by
  refine calls_of (l := [t0, t1]) Try.func24 rfl Try.ntmps24 (Nat.le_of_ble_eq_true rfl) ?_
  unfold f24 at h
  refine wp_seq ?_
  refine L_region ?_
  refine L_u (P_bx h) ?_
  intro v w h
  refine L_nil ?_
  refine E_n ?_
  refine wp_seq ?_
  refine L_region ?_
  refine L_mv ?_
  refine L_u (P_fa fo55_3 h) ?_
  intro v w h
  refine L_u (P_ld sc3 h) ?_
  intro v w h
  refine L_u (N_cl Try.func27 rfl nn27 (fun w Q h => s27 _ _ w Q h) h) ?_
  intro v w h
  refine L_as ?_
  refine L_nil ?_
  refine E_n ?_
  refine wp_seq ?_
  refine L_region ?_
  refine L_mv ?_
  refine L_u (P_smr rfl h) ?_
  intro v w h
  refine L_nil ?_
  refine E_n ?_
  refine C_cnd h (fun h => ?_) (fun h => ?_)
  · refine wp_seq ?_
    refine L_region ?_
    refine L_mv ?_
    refine L_u (P_nc h) ?_
    intro v w h
    refine L_u (P_ld sc3 h) ?_
    intro v w h
    refine L_u (P_ad h) ?_
    intro v w h
    refine L_u (P_nc h) ?_
    intro v w h
    refine L_u (P_st on3 h) ?_
    intro w h
    refine L_nil ?_
    refine E_n ?_
    refine D_region (by decide +kernel) 10 rfl ?_
    replace h := dr_e h
    refine G_p 0 rfl (by decide +kernel) (Y_mv h) ?_
    intro v h
    refine G_p 1 rfl (by decide +kernel) (Y_nc h) ?_
    intro v h
    refine G_p 2 rfl (by decide +kernel) (Y_fa fo28_5 h) ?_
    intro v h
    refine G_r _ 3 rfl (by decide +kernel) (R_ld sc3 h) ?_
    intro v h
    refine G_p 4 rfl (by decide +kernel) (Y_fa fo55_4 h) ?_
    intro v h
    refine G_r _ 5 rfl (by decide +kernel) (R_ld sc3 h) ?_
    intro v h
    refine G_p 6 rfl (by decide +kernel) (Y_ad h) ?_
    intro v h
    refine G_p 7 rfl (by decide +kernel) (Y_nc h) ?_
    intro v h
    refine G_p 8 rfl (by decide +kernel) (Y_fa fo28_5 h) ?_
    intro v h
    refine G_e 9 rfl (by decide +kernel) (P_st on3 h ?_)
    intro w h
    refine ⟨keepF_dep [5] (by decide +kernel) rfl (keepF_dep [3] (by decide +kernel) rfl keepF_nil), ?_⟩
    refine G_done (by decide +kernel) ?_
    show bodyPost Try.prog Try.f24 (Rt Q) .normal _ _
    exact post_tmps (ts := []) (.inl rfl) rfl h
  · refine C_skip ?_
    show bodyPost Try.prog Try.f24 (Rt Q) .normal _ _
    exact post_tmps (ts := []) (.inl rfl) rfl h

def f51 (t0 : Value) : M := nei .i64 t0 t0 fun t5 => rt t5
theorem s51 (t0 : Value) (w : World) (Q : Value → World → Prop) (h : f51 t0 w Q) : Calls Try.prog 51 #[t0] w (Rt Q) := by
  refine calls_of (l := [t0]) Try.func51 rfl Try.ntmps51 (Nat.le_of_ble_eq_true rfl) ?_
  unfold f51 at h
  refine wp_seq ?_
  refine L_region ?_
  refine L_as ?_
  refine L_nil ?_
  refine E_n ?_
  refine wp_seq ?_
  refine L_region ?_
  refine L_mv ?_
  refine L_mv ?_
  refine L_u (P_nei h) ?_
  intro v w h
  refine L_as ?_
  refine L_nil ?_
  refine E_n ?_
  refine C_ret ?_
  show bodyPost Try.prog Try.f51 (Rt Q) .ret _ _
  exact post_tmps (ts := [2]) (.inr rfl) rfl h

def f9_b2 (j1 : Value → M) (self2 : Value → Value → Value → Value → M) (t3 t11 t12_1 t13 : Value) : M := lt .i64 t13 t12_1 fun t14 => cnd t14 ( ia 14 t11 t13 fun t15 => ldn 14 t15 fun t16 => al 55 #[(.int .i64 0), (.int .i64 0), (.int .i64 0), (.int .i64 0), (.string ⟨#[]⟩), (.int .i64 0), (.int .i64 0), (.int .i64 0), (.int .i64 0), (.int .i64 0), (.string ⟨#[]⟩), (.int .i64 0), (.slice none 0 0), (.bool false)] fun t5 => stn 14 t5 t16 <| fa 1 t5 fun t18 => ld t18 fun t19 => smr Try.prog (Instr.lookup 58 t3 t19 false) fun t20 => al 28 #[(.int .i64 0), (.int .i64 0), (.int .i64 0), (.int .i64 0), (.int .i64 0), (.int .i64 0)] fun t6 => stn 6 t6 t20 <| ldn 14 t5 fun t21 => cl (f24 t6 t21) fun t22 => fa 1 t5 fun t24 => ld t24 fun t25 => ldn 6 t6 fun t26 => smu Try.prog (Instr.mapUpdate 58 t3 t25 t26) <| ad .i64 t13 (.int .i64 1) fun t27 => self2 t3 t11 t12_1 t27 ) ( j1 t3 )
def f9_b4 (j3 : Value → M) (self4 : Value → Value → Value → Value → Value → M) (t3_2 t7 t30_1 t31_1 t32 : Value) : M := lt .i64 t32 t31_1 fun t33 => cnd t33 ( ia 1 t30_1 t32 fun t34 => ld t34 fun t35 => smr Try.prog (Instr.lookup 58 t3_2 t35 false) fun t40 => smr Try.prog (Instr.build 31 #[(0, t35), (1, t40)]) fun t41 => sm Try.prog (Instr.buildSlice 25 1 #[(0, t41)]) fun t42 => sm Try.prog (Builtin.append_ #[25, 25] 25 #[t7, t42]) fun t43 => ad .i64 t32 (.int .i64 1) fun t44 => self4 t3_2 t43 t30_1 t31_1 t44 ) ( j3 t7 )
def f9_j3 (t7_1 : Value) : M := rt t7_1
def f9_j1 (t3_1 : Value) : M := cc Try.prog 26 #[t3_1] fun t29 => cc Try.prog 25 #[t29] fun t30 => lnl t30 fun t31 => jn (fun (j3 : Value → M) => lo (fun _ _ _ _ _ => bot) (f9_b4 j3) (fun l => l t3_1 (.slice none 0 0) t30 t31 (.int .i64 0)) ) (f9_j3)
def f9 (t0 : Value) : M := mm fun t10 => lnl t0 fun t12 => jn (fun (j1 : Value → M) => lo (fun _ _ _ _ => bot) (f9_b2 j1) (fun l => l t10 t0 t12 (.int .i64 0)) ) (f9_j1)
theorem s9 (t0 : Value) (w : World) (Q : Value → World → Prop) (h : f9 t0 w Q) : Calls Try.prog 9 #[t0] w (Rt Q) := by
  refine calls_of (l := [t0]) Try.func9 rfl Try.ntmps9 (Nat.le_of_ble_eq_true rfl) ?_
  unfold f9 at h
  refine wp_seq ?_
  refine L_region ?_
  refine L_as ?_
  refine L_nil ?_
  refine E_n ?_
  refine wp_seq ?_
  refine L_region ?_
  refine L_u (P_mm h) ?_
  intro v w h
  refine L_as ?_
  refine L_nil ?_
  refine E_n ?_
  refine wp_seq ?_
  refine wp_seq ?_
  refine L_region ?_
  refine L_mv ?_
  refine L_u (P_lnl is22 h) ?_
  intro v w h
  refine L_mv ?_
  refine L_nil ?_
  refine E_n ?_
  refine C_join (fun (k : Value → M) (ρ : Nat → Value) => k (ρ 3)) h (fun j1 J1 h => ?_) (fun ρ w h => ?_)
  · refine C_blk ?_
    refine C_lo (fun (l : Value → Value → Value → Value → M) (ρ : Nat → Value) => l (ρ 3) (ρ 11) (ρ 12) (ρ 13)) h (fun ρ w h => h) (fun nx self2 L2 ρ w h => ?_)
    unfold f9_b2 at h
    refine wp_seq ?_
    refine L_region ?_
    refine L_u (P_lt h) ?_
    intro v w h
    refine L_nil ?_
    refine E_n ?_
    refine wp_seq ?_
    refine C_cnd h (fun h => ?_) (fun h => ?_)
    · refine C_skip ?_
      refine E_n ?_
      refine wp_seq ?_
      refine C_blk ?_
      refine wp_seq ?_
      refine L_region ?_
      refine L_u (P_ia se22 h) ?_
      intro v w h
      refine L_u (P_ldn ag55 h) ?_
      intro v w h
      refine L_u (P_al ze55 rfl h) ?_
      intro v w h
      refine L_u (P_stn ag55 h) ?_
      intro w h
      refine L_nil ?_
      refine E_n ?_
      refine wp_seq ?_
      refine L_region ?_
      refine L_mv ?_
      refine L_u (P_fa fo55_1 h) ?_
      intro v w h
      refine L_u (P_ld sc3 h) ?_
      intro v w h
      refine L_u (P_smr rfl h) ?_
      intro v w h
      refine L_u (P_al ze28 rfl h) ?_
      intro v w h
      refine L_u (P_stn ag28 h) ?_
      intro w h
      refine L_nil ?_
      refine E_n ?_
      refine wp_seq ?_
      refine L_region ?_
      refine L_u (P_ldn ag55 h) ?_
      intro v w h
      refine L_u (N_cl Try.func24 rfl nn24 (fun w Q h => s24 _ _ w Q h) h) ?_
      intro v w h
      refine L_nil ?_
      refine E_n ?_
      refine L_region ?_
      refine L_mv ?_
      refine L_u (P_fa fo55_1 h) ?_
      intro v w h
      refine L_u (P_ld sc3 h) ?_
      intro v w h
      refine L_u (P_ldn ag28 h) ?_
      intro v w h
      refine L_u (P_smu rfl h) ?_
      intro w h
      refine L_nil ?_
      refine B_n ?_
      refine E_n ?_
      refine L_region ?_
      refine L_u (P_ad h) ?_
      intro v w h
      refine L_mv ?_
      refine L_nil ?_
      refine E_n ?_
      exact L2 _ _ h
    · refine C_exit ?_
      refine E_x ?_
      refine E_x ?_
      refine B_x ?_
      exact J1 _ _ h
  · unfold f9_j1 at h
    refine E_n ?_
    refine wp_seq ?_
    refine L_region ?_
    refine L_as ?_
    refine L_nil ?_
    refine E_n ?_
    refine wp_seq ?_
    refine wp_seq ?_
    refine L_region ?_
    refine L_mv ?_
    refine L_u (N_cc Try.func26 rfl nn26 h) ?_
    intro v w h
    refine L_u (N_cc Try.func25 rfl nn25 h) ?_
    intro v w h
    refine L_u (P_lnl is34 h) ?_
    intro v w h
    refine L_mv ?_
    refine L_nil ?_
    refine E_n ?_
    refine C_join (fun (k : Value → M) (ρ : Nat → Value) => k (ρ 7)) h (fun j3 J3 h => ?_) (fun ρ w h => ?_)
    · refine C_blk ?_
      refine C_lo (fun (l : Value → Value → Value → Value → Value → M) (ρ : Nat → Value) => l (ρ 3) (ρ 7) (ρ 30) (ρ 31) (ρ 32)) h (fun ρ w h => h) (fun nx self4 L4 ρ w h => ?_)
      unfold f9_b4 at h
      refine wp_seq ?_
      refine L_region ?_
      refine L_u (P_lt h) ?_
      intro v w h
      refine L_nil ?_
      refine E_n ?_
      refine wp_seq ?_
      refine C_cnd h (fun h => ?_) (fun h => ?_)
      · refine C_skip ?_
        refine E_n ?_
        refine wp_seq ?_
        refine C_blk ?_
        refine wp_seq ?_
        refine L_region ?_
        refine L_u (P_ia se34 h) ?_
        intro v w h
        refine L_u (P_ld sc3 h) ?_
        intro v w h
        refine L_as ?_
        refine L_nil ?_
        refine E_n ?_
        refine L_region ?_
        refine L_mv ?_
        refine L_mv ?_
        refine L_mv ?_
        refine L_mv ?_
        refine L_u (P_smr rfl h) ?_
        intro v w h
        refine L_u (N_bld h) ?_
        intro v w h
        refine L_u (N_bsl h) ?_
        intro v w h
        refine L_u (N_bi rfl h) ?_
        intro v w h
        refine L_as ?_
        refine L_nil ?_
        refine B_n ?_
        refine E_n ?_
        refine L_region ?_
        refine L_u (P_ad h) ?_
        intro v w h
        refine L_mv ?_
        refine L_nil ?_
        refine E_n ?_
        exact L4 _ _ h
      · refine C_exit ?_
        refine E_x ?_
        refine E_x ?_
        refine B_x ?_
        exact J3 _ _ h
    · unfold f9_j3 at h
      refine E_n ?_
      refine wp_seq ?_
      refine L_region ?_
      refine L_mv ?_
      refine L_as ?_
      refine L_nil ?_
      refine E_n ?_
      refine C_ret ?_
      show bodyPost Try.prog Try.f9 (Rt Q) .ret _ _
      exact post_tmps (ts := [2]) (.inr rfl) rfl h

def f11_b2 (j1 : Value → Value → M) (self2 : Value → Value → Value → Value → Value → M) (t2_1 t3_1 t6 t7_1 t8 : Value) : M := lt .i64 t8 t7_1 fun t9 => cnd t9 ( ia 14 t6 t8 fun t10 => ldn 14 t10 fun t11 => al 55 #[(.int .i64 0), (.int .i64 0), (.int .i64 0), (.int .i64 0), (.string ⟨#[]⟩), (.int .i64 0), (.int .i64 0), (.int .i64 0), (.int .i64 0), (.int .i64 0), (.string ⟨#[]⟩), (.int .i64 0), (.slice none 0 0), (.bool false)] fun t5 => stn 14 t5 t11 <| ldn 14 t5 fun t12 => cl (f24 t3_1 t12) fun t13 => ad .i64 t8 (.int .i64 1) fun t14 => self2 t2_1 t3_1 t6 t7_1 t14 ) ( j1 t2_1 t3_1 )
def f11_j1 (t2_2 t3_2 : Value) : M := ldn 6 t3_2 fun t15 => stn 6 t2_2 t15 <| ldn 6 t2_2 fun r0 => rt r0
def f11 (t0 : Value) : M := al 28 #[(.int .i64 0), (.int .i64 0), (.int .i64 0), (.int .i64 0), (.int .i64 0), (.int .i64 0)] fun t2 => al 28 #[(.int .i64 0), (.int .i64 0), (.int .i64 0), (.int .i64 0), (.int .i64 0), (.int .i64 0)] fun t3 => lnl t0 fun t7 => jn (fun (j1 : Value → Value → M) => lo (fun _ _ _ _ _ => bot) (f11_b2 j1) (fun l => l t2 t3 t0 t7 (.int .i64 0)) ) (f11_j1)
theorem s11 (t0 : Value) (w : World) (Q : Value → World → Prop) (h : f11 t0 w Q) : Calls Try.prog 11 #[t0] w (Rt Q) := by
  refine calls_of (l := [t0]) Try.func11 rfl Try.ntmps11 (Nat.le_of_ble_eq_true rfl) ?_
  unfold f11 at h
  refine wp_seq ?_
  refine L_region ?_
  refine L_u (P_al ze28 rfl h) ?_
  intro v w h
  refine L_nil ?_
  refine E_n ?_
  refine wp_seq ?_
  refine L_region ?_
  refine L_u (P_al ze28 rfl h) ?_
  intro v w h
  refine L_nil ?_
  refine E_n ?_
  refine wp_seq ?_
  refine wp_seq ?_
  refine L_region ?_
  refine L_mv ?_
  refine L_u (P_lnl is22 h) ?_
  intro v w h
  refine L_mv ?_
  refine L_nil ?_
  refine E_n ?_
  refine C_join (fun (k : Value → Value → M) (ρ : Nat → Value) => k (ρ 2) (ρ 3)) h (fun j1 J1 h => ?_) (fun ρ w h => ?_)
  · refine C_blk ?_
    refine C_lo (fun (l : Value → Value → Value → Value → Value → M) (ρ : Nat → Value) => l (ρ 2) (ρ 3) (ρ 6) (ρ 7) (ρ 8)) h (fun ρ w h => h) (fun nx self2 L2 ρ w h => ?_)
    unfold f11_b2 at h
    refine wp_seq ?_
    refine L_region ?_
    refine L_u (P_lt h) ?_
    intro v w h
    refine L_nil ?_
    refine E_n ?_
    refine wp_seq ?_
    refine C_cnd h (fun h => ?_) (fun h => ?_)
    · refine C_skip ?_
      refine E_n ?_
      refine wp_seq ?_
      refine C_blk ?_
      refine wp_seq ?_
      refine L_region ?_
      refine L_u (P_ia se22 h) ?_
      intro v w h
      refine L_u (P_ldn ag55 h) ?_
      intro v w h
      refine L_u (P_al ze55 rfl h) ?_
      intro v w h
      refine L_u (P_stn ag55 h) ?_
      intro w h
      refine L_nil ?_
      refine E_n ?_
      refine L_region ?_
      refine L_u (P_ldn ag55 h) ?_
      intro v w h
      refine L_u (N_cl Try.func24 rfl nn24 (fun w Q h => s24 _ _ w Q h) h) ?_
      intro v w h
      refine L_nil ?_
      refine B_n ?_
      refine E_n ?_
      refine L_region ?_
      refine L_u (P_ad h) ?_
      intro v w h
      refine L_mv ?_
      refine L_nil ?_
      refine E_n ?_
      exact L2 _ _ h
    · refine C_exit ?_
      refine E_x ?_
      refine E_x ?_
      refine B_x ?_
      exact J1 _ _ h
  · unfold f11_j1 at h
    refine E_n ?_
    refine wp_seq ?_
    refine L_region ?_
    refine L_u (P_ldn ag28 h) ?_
    intro v w h
    refine L_u (P_stn ag28 h) ?_
    intro w h
    refine L_nil ?_
    refine E_n ?_
    refine C_ret ?_
    show bodyPost Try.prog Try.f11 (Rt Q) .ret _ _
    refine post_res [.cell 2 28] (.inr rfl) rfl ?_
    refine res_ldn 2 28 ag28 (by exact h) (fun _ hr0 h => ?_)
    exact ⟨[_], ⟨hr0, trivial⟩, h⟩

def f7 : M := smr Try.prog (Instr.build 55 #[(3, (.int .i64 1)), (4, (.int .i64 2))]) fun t2 => smr Try.prog (Instr.build 55 #[(3, (.int .i64 4)), (4, (.int .i64 3))]) fun t3 => sm Try.prog (Instr.buildSlice 22 2 #[(0, t2), (1, t3)]) fun t4 => cl (f11 t4) fun t5 => al 28 #[(.int .i64 0), (.int .i64 0), (.int .i64 0), (.int .i64 0), (.int .i64 0), (.int .i64 0)] fun t1 => stn 6 t1 t5 <| ldn 6 t1 fun t6 => smr Try.prog (Instr.build 28 #[(0, (.int .i64 1)), (3, (.int .i64 1)), (5, (.int .i64 5))]) fun t7 => smr Try.prog (do eqGuard .eql 28 (.tmp 6) (.tmp 7) t6 t7; binOp .eql 28 t6 t7) fun t8 => gd t8 true (smr Try.prog (Instr.build 55 #[])) fun t10 => gd t8 true (sm Try.prog (Instr.buildSlice 22 1 #[(0, t10)])) fun t11 => gd t8 true (cl (f9 t11)) fun t12 => gd t8 true (lnl t12) fun t13 => gd t8 true (eqi .i64 t13 (.int .i64 1)) fun t14 => pk t8 t14 (.bool false) fun t15 => rt t15
theorem s7 (w : World) (Q : Value → World → Prop) (h : f7 w Q) : Calls Try.prog 7 #[] w (Rt Q) := by
  refine calls_of (l := []) Try.func7 rfl Try.ntmps7 (Nat.le_of_ble_eq_true rfl) ?_
  unfold f7 at h
  refine wp_seq ?_
  refine L_region ?_
  refine L_as ?_
  refine L_nil ?_
  refine E_n ?_
  refine wp_seq ?_
  refine L_region ?_
  refine L_u (N_bld h) ?_
  intro v w h
  refine L_u (N_bld h) ?_
  intro v w h
  refine L_u (N_bsl h) ?_
  intro v w h
  refine L_u (N_cl Try.func11 rfl nn11 (fun w Q h => s11 _ w Q h) h) ?_
  intro v w h
  refine L_u (P_al ze28 rfl h) ?_
  intro v w h
  refine L_u (P_stn ag28 h) ?_
  intro w h
  refine L_nil ?_
  refine E_n ?_
  refine wp_seq ?_
  refine L_region ?_
  refine L_u (P_ldn ag28 h) ?_
  intro v w h
  refine L_u (N_bld h) ?_
  intro v w h
  refine L_u (P_smr rfl h) ?_
  intro v w h
  refine L_mv ?_
  refine L_g (t := 9) h rfl rfl (fun c h => N_bld h c) ?_
  intro v w h
  refine L_g (t := 9) h rfl rfl (fun c h => N_bsl h c) ?_
  intro v w h
  refine L_g (t := 9) h rfl rfl (fun c h => N_cl Try.func9 rfl nn9 (fun w Q h => s9 _ w Q h) h c) ?_
  intro v w h
  refine L_g (t := 9) h rfl rfl (fun c h => P_lnl is25 h c) ?_
  intro v w h
  refine L_g (t := 9) h rfl rfl (fun c h => P_eqi h c) ?_
  intro v w h
  refine L_u (P_pk h) ?_
  intro v w h
  refine L_as ?_
  refine L_nil ?_
  refine E_n ?_
  refine C_ret ?_
  show bodyPost Try.prog Try.f7 (Rt Q) .ret _ _
  exact post_tmps (ts := [0]) (.inr rfl) rfl h

def f8 (t0 : Value) : M := lnl t0 fun t5 => mnm t5 (.int .i64 150) fun t6 => sll 14 t0 none (some t6) fun t7 => rt t7
theorem s8 (t0 : Value) (w : World) (Q : Value → World → Prop) (h : f8 t0 w Q) : Calls Try.prog 8 #[t0] w (Rt Q) := by
  refine calls_of (l := [t0]) Try.func8 rfl Try.ntmps8 (Nat.le_of_ble_eq_true rfl) ?_
  unfold f8 at h
  refine wp_seq ?_
  refine L_region ?_
  refine L_as ?_
  refine L_nil ?_
  refine E_n ?_
  refine wp_seq ?_
  refine L_region ?_
  refine L_mv ?_
  refine L_mv ?_
  refine L_u (P_lnl is22 h) ?_
  intro v w h
  refine L_u (P_mnm (t := 0) h) ?_
  intro v w h
  refine L_u (P_sll se22 h) ?_
  intro v w h
  refine L_as ?_
  refine L_nil ?_
  refine E_n ?_
  refine C_ret ?_
  show bodyPost Try.prog Try.f8 (Rt Q) .ret _ _
  exact post_tmps (ts := [2]) (.inr rfl) rfl h

def f10_b2 (j1 : Value → Value → M) (self2 : Value → Value → Value → Value → M) (t2_1 t3_1 t4_1 t5 : Value) : M := le .i64 t5 (.int .i64 5) fun t13 => cnd t13 ( dr <| idv t5 fun t16 => idv t5 fun t20 => cl (f27 t2_1 t16) fun t17 => nc t17 fun t18 => ld t18 fun t19 => cl (f27 t3_1 t20) fun t21 => kp (Kld t18 t19) <| nc t21 fun t22 => ld t22 fun t23 => ad .i64 t19 t23 fun t24 => nc t17 fun t25 => st t25 t24 <| ad .i64 t5 (.int .i64 1) fun t15 => self2 t2_1 t3_1 t4_1 t15 ) ( j1 t2_1 t4_1 )
def f10_j1 (t2_2 t4_2 : Value) : M := ldn 6 t2_2 fun t26 => stn 6 t4_2 t26 <| ldn 6 t4_2 fun r0 => rt r0
def f10 (t0 t1 : Value) : M := bx 28 t0 fun t2 => bx 28 t1 fun t3 => al 28 #[(.int .i64 0), (.int .i64 0), (.int .i64 0), (.int .i64 0), (.int .i64 0), (.int .i64 0)] fun t4 => fa 5 t2 fun t6 => ld t6 fun t7 => fa 5 t3 fun t8 => ld t8 fun t9 => ad .i64 t7 t9 fun t10 => fa 5 t2 fun t11 => st t11 t10 <| jn (fun (j1 : Value → Value → M) => lo (fun _ _ _ _ => bot) (f10_b2 j1) (fun l => l t2 t3 t4 (.int .i64 1)) ) (f10_j1)
theorem s10 (t0 t1 : Value) (w : World) (Q : Value → World → Prop) (h : f10 t0 t1 w Q) : Calls Try.prog 10 #[t0, t1] w (Rt Q) := by
  refine calls_of (l := [t0, t1]) Try.func10 rfl Try.ntmps10 (Nat.le_of_ble_eq_true rfl) ?_
  unfold f10 at h
  refine wp_seq ?_
  refine L_region ?_
  refine L_u (P_bx h) ?_
  intro v w h
  refine L_u (P_bx h) ?_
  intro v w h
  refine L_u (P_al ze28 rfl h) ?_
  intro v w h
  refine L_nil ?_
  refine E_n ?_
  refine wp_seq ?_
  refine L_region ?_
  refine L_u (P_fa fo28_5 h) ?_
  intro v w h
  refine L_u (P_ld sc3 h) ?_
  intro v w h
  refine L_u (P_fa fo28_5 h) ?_
  intro v w h
  refine L_u (P_ld sc3 h) ?_
  intro v w h
  refine L_u (P_ad h) ?_
  intro v w h
  refine L_u (P_fa fo28_5 h) ?_
  intro v w h
  refine L_u (P_st on3 h) ?_
  intro w h
  refine L_nil ?_
  refine E_n ?_
  refine wp_seq ?_
  refine wp_seq ?_
  refine L_region ?_
  refine L_as ?_
  refine L_nil ?_
  refine E_n ?_
  refine C_join (fun (k : Value → Value → M) (ρ : Nat → Value) => k (ρ 2) (ρ 4)) h (fun j1 J1 h => ?_) (fun ρ w h => ?_)
  · refine C_blk ?_
    refine C_lo (fun (l : Value → Value → Value → Value → M) (ρ : Nat → Value) => l (ρ 2) (ρ 3) (ρ 4) (ρ 5)) h (fun ρ w h => h) (fun nx self2 L2 ρ w h => ?_)
    unfold f10_b2 at h
    refine wp_seq ?_
    refine wp_seq ?_
    refine L_region ?_
    refine L_mv ?_
    refine L_u (P_le h) ?_
    intro v w h
    refine L_nil ?_
    refine E_n ?_
    refine C_cnd h (fun h => ?_) (fun h => ?_)
    · refine C_skip ?_
      refine E_n ?_
      refine wp_seq ?_
      refine C_blk ?_
      refine D_region (by decide +kernel) 11 rfl ?_
      replace h := dr_e h
      refine G_p 0 rfl (by decide +kernel) (Y_mv h) ?_
      intro v h
      refine G_p 4 rfl (by decide +kernel) (Y_mv h) ?_
      intro v h
      refine G_e 1 rfl (by decide +kernel) (N_cl Try.func27 rfl nn27 (fun w Q h => s27 _ _ w Q h) h ?_)
      intro v w h
      refine ⟨keepF_nil, ?_⟩
      refine G_p 2 rfl (by decide +kernel) (Y_nc h) ?_
      intro v h
      refine G_r _ 3 rfl (by decide +kernel) (R_ld sc3 h) ?_
      intro v h
      refine G_e 5 rfl (by decide +kernel) (N_cl Try.func27 rfl nn27 (fun w Q h => s27 _ _ w Q h) h ?_)
      intro v w h
      refine ⟨keepF_cons (kp_1 h) keepF_nil, ?_⟩
      replace h := (kp_2 h)
      refine G_p 6 rfl (by decide +kernel) (Y_nc h) ?_
      intro v h
      refine G_r _ 7 rfl (by decide +kernel) (R_ld sc3 h) ?_
      intro v h
      refine G_p 8 rfl (by decide +kernel) (Y_ad h) ?_
      intro v h
      refine G_p 9 rfl (by decide +kernel) (Y_nc h) ?_
      intro v h
      refine G_e 10 rfl (by decide +kernel) (P_st on3 h ?_)
      intro w h
      refine ⟨keepF_dep [7] (by decide +kernel) rfl (keepF_dep [3] (by decide +kernel) rfl keepF_nil), ?_⟩
      refine G_done (by decide +kernel) ?_
      refine B_n ?_
      refine E_n ?_
      refine L_region ?_
      refine L_mv ?_
      refine L_u (P_ad h) ?_
      intro v w h
      refine L_as ?_
      refine L_nil ?_
      refine E_n ?_
      exact L2 _ _ h
    · refine C_exit ?_
      refine E_x ?_
      refine E_x ?_
      refine B_x ?_
      exact J1 _ _ h
  · unfold f10_j1 at h
    refine E_n ?_
    refine wp_seq ?_
    refine L_region ?_
    refine L_u (P_ldn ag28 h) ?_
    intro v w h
    refine L_u (P_stn ag28 h) ?_
    intro w h
    refine L_nil ?_
    refine E_n ?_
    refine C_ret ?_
    show bodyPost Try.prog Try.f10 (Rt Q) .ret _ _
    refine post_res [.cell 4 28] (.inr rfl) rfl ?_
    refine res_ldn 4 28 ag28 (by exact h) (fun _ hr0 h => ?_)
    exact ⟨[_], ⟨hr0, trivial⟩, h⟩

def f3_b2 (j1 : Value → Value → Value → Value → M) (self2 : Value → Value → Value → Value → Value → Value → M) (t0_1 t1_1 t5 t6 t7_1 t8 : Value) : M := lnl t6 fun t23 => lt .i64 t8 t23 fun t24 => cnd t24 ( dr <| ldn 6 t7_1 fun t27 => idv t6 fun t28 => idv t8 fun t29 => ia 7 t28 t29 fun t30 => fa 1 t30 fun t31 => ldn 6 t31 fun t32 => cl (f10 t27 t32) fun t33 => stn 6 t7_1 t33 <| ad .i64 t8 (.int .i64 1) fun t26 => self2 t0_1 t1_1 t5 t6 t7_1 t26 ) ( j1 t0_1 t1_1 t5 t7_1 )
def f3_j1 (t0_2 t1_2 t5_1 t7_2 : Value) : M := dr <| idv t5_1 fun t34 => idv t0_2 fun t36 => idv t1_2 fun t38 => cl (f11 t34) fun t35 => cl (f11 t36) fun t37 => cl (f11 t38) fun t39 => cl (f10 t37 t39) fun t40 => smr Try.prog (do eqGuard .eql 28 (.tmp 35) (.tmp 40) t35 t40; binOp .eql 28 t35 t40) fun t41 => idv t41 fun t42 => gd t42 true (ldn 6 t7_2) fun t43 => gd t42 true (idv t5_1) fun t44 => gd t42 true (cl (f11 t44)) fun t45 => kp (fun w => gdB t42 true = true → Kldn 6 t7_2 t43 w) <| gd t42 true (smr Try.prog (do eqGuard .eql 28 (.tmp 43) (.tmp 45) t43 t45; binOp .eql 28 t43 t45)) fun t46 => pk t42 t46 (.bool false) fun t47 => idv t47 fun t4 => rt t4
def f3 (t0 t1 : Value) : M := cl (f7) fun t9 => nt t9 fun t10 => cnd t10 ( rt (.bool false) ) ( cl (f8 t0) fun t12 => cl (f8 t1) fun t14 => sm Try.prog (Builtin.append_ #[22, 22] 22 #[(.slice none 0 0), t12]) fun t16 => sm Try.prog (Builtin.append_ #[22, 22] 22 #[t16, t14]) fun t18 => cl (f9 t18) fun t20 => al 28 #[(.int .i64 0), (.int .i64 0), (.int .i64 0), (.int .i64 0), (.int .i64 0), (.int .i64 0)] fun t7 => jn (fun (j1 : Value → Value → Value → Value → M) => lo (fun _ _ _ _ _ _ => bot) (f3_b2 j1) (fun l => l t12 t14 t18 t20 t7 (.int .i64 0)) ) (f3_j1) )
theorem s3 (t0 t1 : Value) (w : World) (Q : Value → World → Prop) (h : f3 t0 t1 w Q) : Calls Try.prog 3 #[t0, t1] w (Rt Q) := by
  refine calls_of (l := [t0, t1]) Try.func3 rfl Try.ntmps3 (Nat.le_of_ble_eq_true rfl) ?_
  unfold f3 at h
  refine wp_seq ?_
  refine L_region ?_
  refine L_as ?_
  refine L_nil ?_
  refine E_n ?_
  refine wp_seq ?_
  refine wp_seq ?_
  refine L_region ?_
  refine L_u (N_cl Try.func7 rfl nn7 (fun w Q h => s7 w Q h) h) ?_
  intro v w h
  refine L_u (P_nt h) ?_
  intro v w h
  refine L_nil ?_
  refine E_n ?_
  refine C_cnd h (fun h => ?_) (fun h => ?_)
  · refine wp_seq ?_
    refine L_region ?_
    refine L_as ?_
    refine L_nil ?_
    refine E_n ?_
    refine C_ret ?_
    show bodyPost Try.prog Try.f3 (Rt Q) .ret _ _
    exact post_tmps (ts := [4]) (.inr rfl) rfl h
  · refine C_skip ?_
    refine E_n ?_
    refine wp_seq ?_
    refine L_region ?_
    refine L_mv ?_
    refine L_u (N_cl Try.func8 rfl nn8 (fun w Q h => s8 _ w Q h) h) ?_
    intro v w h
    refine L_mv ?_
    refine L_u (N_cl Try.func8 rfl nn8 (fun w Q h => s8 _ w Q h) h) ?_
    intro v w h
    refine L_as ?_
    refine L_as ?_
    refine L_nil ?_
    refine E_n ?_
    refine wp_seq ?_
    refine L_region ?_
    refine L_mv ?_
    refine L_u (N_bi rfl h) ?_
    intro v w h
    refine L_mv ?_
    refine L_u (N_bi rfl h) ?_
    intro v w h
    refine L_as ?_
    refine L_nil ?_
    refine E_n ?_
    refine wp_seq ?_
    refine L_region ?_
    refine L_mv ?_
    refine L_u (N_cl Try.func9 rfl nn9 (fun w Q h => s9 _ w Q h) h) ?_
    intro v w h
    refine L_as ?_
    refine L_nil ?_
    refine E_n ?_
    refine wp_seq ?_
    refine L_region ?_
    refine L_u (P_al ze28 rfl h) ?_
    intro v w h
    refine L_nil ?_
    refine E_n ?_
    refine wp_seq ?_
    refine wp_seq ?_
    refine L_region ?_
    refine L_as ?_
    refine L_nil ?_
    refine E_n ?_
    refine C_join (fun (k : Value → Value → Value → Value → M) (ρ : Nat → Value) => k (ρ 0) (ρ 1) (ρ 5) (ρ 7)) h (fun j1 J1 h => ?_) (fun ρ w h => ?_)
    · refine C_blk ?_
      refine C_lo (fun (l : Value → Value → Value → Value → Value → Value → M) (ρ : Nat → Value) => l (ρ 0) (ρ 1) (ρ 5) (ρ 6) (ρ 7) (ρ 8)) h (fun ρ w h => h) (fun nx self2 L2 ρ w h => ?_)
      unfold f3_b2 at h
      refine wp_seq ?_
      refine wp_seq ?_
      refine L_region ?_
      refine L_mv ?_
      refine L_mv ?_
      refine L_u (P_lnl is25 h) ?_
      intro v w h
      refine L_u (P_lt h) ?_
      intro v w h
      refine L_nil ?_
      refine E_n ?_
      refine C_cnd h (fun h => ?_) (fun h => ?_)
      · refine C_skip ?_
        refine E_n ?_
        refine wp_seq ?_
        refine C_blk ?_
        refine D_region (by decide +kernel) 8 rfl ?_
        replace h := dr_e h
        refine G_r _ 0 rfl (by decide +kernel) (R_ldn ag28 h) ?_
        intro v h
        refine G_p 1 rfl (by decide +kernel) (Y_mv h) ?_
        intro v h
        refine G_p 2 rfl (by decide +kernel) (Y_mv h) ?_
        intro v h
        refine G_p 3 rfl (by decide +kernel) (Y_ia se25 h) ?_
        intro v h
        refine G_p 4 rfl (by decide +kernel) (Y_fa fo31_1 h) ?_
        intro v h
        refine G_r _ 5 rfl (by decide +kernel) (R_ldn ag28 h) ?_
        intro v h
        refine G_e 6 rfl (by decide +kernel) (N_cl Try.func10 rfl nn10 (fun w Q h => s10 _ _ w Q h) h ?_)
        intro v w h
        refine ⟨keepF_dep [5] (by decide +kernel) rfl (keepF_dep [0] (by decide +kernel) rfl keepF_nil), ?_⟩
        refine G_e 7 rfl (by decide +kernel) (P_stn ag28 h ?_)
        intro w h
        refine ⟨keepF_dep [5] (by decide +kernel) rfl (keepF_dep [0] (by decide +kernel) rfl keepF_nil), ?_⟩
        refine G_done (by decide +kernel) ?_
        refine B_n ?_
        refine E_n ?_
        refine L_region ?_
        refine L_mv ?_
        refine L_u (P_ad h) ?_
        intro v w h
        refine L_as ?_
        refine L_nil ?_
        refine E_n ?_
        exact L2 _ _ h
      · refine C_exit ?_
        refine E_x ?_
        refine E_x ?_
        refine B_x ?_
        exact J1 _ _ h
    · unfold f3_j1 at h
      refine E_n ?_
      refine wp_seq ?_
      refine D_region (by decide +kernel) 15 rfl ?_
      replace h := dr_e h
      refine G_p 0 rfl (by decide +kernel) (Y_mv h) ?_
      intro v h
      refine G_p 2 rfl (by decide +kernel) (Y_mv h) ?_
      intro v h
      refine G_p 4 rfl (by decide +kernel) (Y_mv h) ?_
      intro v h
      refine G_e 1 rfl (by decide +kernel) (N_cl Try.func11 rfl nn11 (fun w Q h => s11 _ w Q h) h ?_)
      intro v w h
      refine ⟨keepF_nil, ?_⟩
      refine G_e 3 rfl (by decide +kernel) (N_cl Try.func11 rfl nn11 (fun w Q h => s11 _ w Q h) h ?_)
      intro v w h
      refine ⟨keepF_nil, ?_⟩
      refine G_e 5 rfl (by decide +kernel) (N_cl Try.func11 rfl nn11 (fun w Q h => s11 _ w Q h) h ?_)
      intro v w h
      refine ⟨keepF_nil, ?_⟩
      refine G_e 6 rfl (by decide +kernel) (N_cl Try.func10 rfl nn10 (fun w Q h => s10 _ _ w Q h) h ?_)
      intro v w h
      refine ⟨keepF_nil, ?_⟩
      refine G_r _ 7 rfl (by decide +kernel) (R_sm rfl h) ?_
      intro v h
      refine G_p 8 rfl (by decide +kernel) (Y_mv h) ?_
      intro v h
      refine G_rg (t := 42) _ 9 rfl (by decide +kernel) h rfl rfl (fun h => R_ldn ag28 h) ?_
      intro v h
      refine G_pg (t := 42) 10 rfl (by decide +kernel) h rfl rfl (fun h => Y_mv h) ?_
      intro v h
      refine G_eg (t := 42) 11 rfl (by decide +kernel) h rfl rfl (fun c h => N_cl Try.func11 rfl nn11 (fun w Q h => s11 _ w Q h) h c) ?_
      intro v w h
      refine ⟨keepF_cons (kp_1 h) (keepF_dep [8, 7] (by decide +kernel) rfl keepF_nil), ?_⟩
      replace h := (kp_2 h)
      refine G_rg (t := 42) _ 12 rfl (by decide +kernel) h rfl rfl (fun h => R_sm rfl h) ?_
      intro v h
      refine G_p 13 rfl (by decide +kernel) (Y_pk h) ?_
      intro v h
      refine G_p 14 rfl (by decide +kernel) (Y_as h) ?_
      intro v h
      refine G_done (by decide +kernel) ?_
      refine E_n ?_
      refine C_ret ?_
      show bodyPost Try.prog Try.f3 (Rt Q) .ret _ _
      exact post_tmps (ts := [4]) (.inr rfl) rfl h

def f12_b5 (j4 : Value → Value → Value → Value → M) (self5 : Value → Value → Value → Value → M) (t0_2 t3_1 t4_1 t5 : Value) : M := dr <| idv t5 fun t12 => idv t3_1 fun t13 => lnl t13 fun t14 => lt .i64 t12 t14 fun t15 => idv t15 fun t16 => gd t16 true (idv t3_1) fun t17 => gd t16 true (idv t5) fun t18 => gd t16 true (ia 1 t17 t18) fun t19 => gd t16 true (ld t19) fun t20 => gd t16 true (idv t0_2) fun t21 => gd t16 true (idv t4_1) fun t22 => gd t16 true (ia 14 t21 t22) fun t23 => gd t16 true (fa 1 t23) fun t24 => gd t16 true (ld t24) fun t25 => gd t16 true (lt .i64 t20 t25) fun t26 => pk t16 t26 (.bool false) fun t27 => cnd t27 ( ad .i64 t5 (.int .i64 1) fun t29 => self5 t0_2 t3_1 t4_1 t29 ) ( j4 t0_2 t3_1 t4_1 t5 )
def f12_j4 (j3 : Value → Value → Value → M) (t0_3 t3_2 t4_2 t5_1 : Value) : M := dr <| idv t5_1 fun t30 => idv t3_2 fun t31 => lnl t31 fun t32 => lt .i64 t30 t32 fun t33 => idv t33 fun t34 => gd t34 true (idv t3_2) fun t35 => gd t34 true (idv t5_1) fun t36 => gd t34 true (ia 1 t35 t36) fun t37 => gd t34 true (ld t37) fun t38 => gd t34 true (idv t0_3) fun t39 => gd t34 true (idv t4_2) fun t40 => gd t34 true (ia 14 t39 t40) fun t41 => gd t34 true (fa 1 t41) fun t42 => gd t34 true (ld t42) fun t43 => gd t34 true (eqi .i64 t38 t43) fun t44 => pk t34 t44 (.bool false) fun t45 => cnd t45 ( j3 t0_3 t3_2 t4_2 ) ( dr <| idv t3_2 fun t46 => idv t5_1 fun t47 => sll 1 t46 none (some t47) fun t48 => idv t0_3 fun t50 => idv t4_2 fun t51 => ia 14 t50 t51 fun t52 => fa 1 t52 fun t53 => ld t53 fun t54 => idv t3_2 fun t57 => idv t5_1 fun t58 => sll 1 t57 (some t58) none fun t59 => amb ( sm Try.prog (Builtin.append_ #[34, 34] 34 #[(.slice none 0 0), t48]) fun t49 => kp (Kld t53 t54) <| sm Try.prog (Instr.buildSlice 34 1 #[(0, t54)]) fun t55_1 => sm Try.prog (Builtin.append_ #[34, 34] 34 #[t49, t55_1]) fun t56 => sm Try.prog (Builtin.append_ #[34, 34] 34 #[t56, t59]) fun t60 => idv t60 fun t3_3 => j3 t0_3 t3_3 t4_2 ) ( sm Try.prog (Instr.buildSlice 34 1 #[(0, t54)]) fun t55 => sm Try.prog (Builtin.append_ #[34, 34] 34 #[(.slice none 0 0), t48]) fun t49_1 => kp (Kld t53 t54) <| sm Try.prog (Builtin.append_ #[34, 34] 34 #[t49_1, t55]) fun t56_1 => sm Try.prog (Builtin.append_ #[34, 34] 34 #[t56_1, t59]) fun t60_1 => idv t60_1 fun t3_4 => j3 t0_3 t3_4 t4_2 ) )
def f12_j3 (self2 : Value → Value → Value → M) (t0_4 t3_5 t4_3 : Value) : M := ad .i64 t4_3 (.int .i64 1) fun t11 => self2 t0_4 t3_5 t11
def f12_b2 (j1 : Value → M) (self2 : Value → Value → Value → M) (t0_1 t3 t4 : Value) : M := lnl t0_1 fun t8 => lt .i64 t4 t8 fun t9 => cnd t9 ( jn (fun (j3 : Value → Value → Value → M) => jn (fun (j4 : Value → Value → Value → Value → M) => lo (fun _ _ _ _ => bot) (f12_b5 j4) (fun l => l t0_1 t3 t4 (.int .i64 0)) ) (f12_j4 j3) ) (f12_j3 self2) ) ( j1 t3 )
def f12_j1 (t3_6 : Value) : M := rt t3_6
def f12 (t0 : Value) : M := jn (fun (j1 : Value → M) => lo (fun _ _ _ => bot) (f12_b2 j1) (fun l => l t0 (.slice none 0 0) (.int .i64 0)) ) (f12_j1)
def f13 (t0 : Value) : M := bx 28 t0 fun t1 => al 37 #[(.int .i64 0), (.int .i64 0), (.int .i64 0), (.int .i64 0), (.int .i64 0), (.int .i64 0)] fun t2 => fa 0 t1 fun t3 => ld t3 fun t4 => fa 1 t1 fun t5 => ld t5 fun t6 => fa 2 t1 fun t7 => ld t7 fun t8 => fa 3 t1 fun t9 => ld t9 fun t10 => fa 4 t1 fun t11 => ld t11 fun t12 => fa 5 t1 fun t13 => ld t13 fun t14 => smr Try.prog (Instr.build 37 #[(0, t4), (1, t6), (2, t8), (3, t10), (4, t12), (5, t14)]) fun t15 => stn 6 t2 t15 <| ldn 6 t2 fun r0 => rt r0
def f14_j3 (self2 : Value → Value → Value → Value → M) (t0_2 t2_2 t3_2 t4_1 : Value) : M := ad .i64 t4_1 (.int .i64 1) fun t10 => self2 t0_2 t2_2 t3_2 t10
def f14_b2 (j1 : Value → Value → M) (self2 : Value → Value → Value → Value → M) (t0_1 t2_1 t3_1 t4 : Value) : M := lnl t0_1 fun t7 => lt .i64 t4 t7 fun t8 => cnd t8 ( ia 14 t0_1 t4 fun t13 => fa 5 t13 fun t14 => ld t14 fun t15 => ge .i64 t15 (.int .i64 1) fun t16 => gd t16 true (idv t0_1) fun t18 => gd t16 true (idv t4) fun t19 => gd t16 true (ia 14 t18 t19) fun t20 => gd t16 true (fa 5 t20) fun t21 => gd t16 true (ld t21) fun t22 => gd t16 true (le .i64 t22 (.int .i64 5)) fun t23 => pk t16 t23 (.bool false) fun t24 => jn (fun (j3 : Value → Value → Value → Value → M) => cnd t24 ( ia 14 t0_1 t4 fun t27 => fa 5 t27 fun t28 => ld t28 fun t29 => su .i64 t29 (.int .i64 1) fun t30 => iaa 6 1 t3_1 t30 fun t31 => ld t31 fun t32 => ad .i64 t32 (.int .i64 1) fun t33 => iaa 6 1 t3_1 t30 fun t34 => st t34 t33 <| dr <| iaa 6 1 t3_1 (.int .i64 5) fun t35 => ld t35 fun t36 => idv t0_1 fun t37 => idv t4 fun t38 => ia 14 t37 t38 fun t39 => fa 6 t39 fun t40 => ld t40 fun t41 => ad .i64 t36 t41 fun t42 => iaa 6 1 t3_1 (.int .i64 5) fun t43 => st t43 t42 <| j3 t0_1 t2_1 t3_1 t4 ) ( j3 t0_1 t2_1 t3_1 t4 ) ) (f14_j3 self2) ) ( j1 t2_1 t3_1 )
def f14_j1 (t2_3 t3_3 : Value) : M := ldn 6 t3_3 fun t44 => stn 6 t2_3 t44 <| ldn 6 t2_3 fun r0 => rt r0
def f14 (t0 : Value) : M := al 37 #[(.int .i64 0), (.int .i64 0), (.int .i64 0), (.int .i64 0), (.int .i64 0), (.int .i64 0)] fun t2 => al 37 #[(.int .i64 0), (.int .i64 0), (.int .i64 0), (.int .i64 0), (.int .i64 0), (.int .i64 0)] fun t3 => jn (fun (j1 : Value → Value → M) => lo (fun _ _ _ _ => bot) (f14_b2 j1) (fun l => l t0 t2 t3 (.int .i64 0)) ) (f14_j1)
def f15_j3 (self2 : Value → Value → Value → Value → M) (t0_2 t1_2 t5_1 t6_1 : Value) : M := ad .i64 t6_1 (.int .i64 1) fun t12 => self2 t0_2 t1_2 t5_1 t12
def f15_b2 (j1 : Value → M) (self2 : Value → Value → Value → Value → M) (t0_1 t1_1 t5 t6 : Value) : M := lnl t0_1 fun t9 => lt .i64 t6 t9 fun t10 => cnd t10 ( ia 14 t0_1 t6 fun t15 => fa 1 t15 fun t16 => ld t16 fun t17 => eqi .i64 t17 t1_1 fun t19 => jn (fun (j3 : Value → Value → Value → Value → M) => cnd t19 ( ia 14 t0_1 t6 fun t23 => ldn 14 t23 fun t24 => sm Try.prog (Instr.buildSlice 22 1 #[(0, t24)]) fun t25 => sm Try.prog (Builtin.append_ #[22, 22] 22 #[t5, t25]) fun t26 => j3 t0_1 t1_1 t26 t6 ) ( j3 t0_1 t1_1 t5 t6 ) ) (f15_j3 self2) ) ( j1 t5 )
def f15_j1 (t5_2 : Value) : M := rt t5_2
def f15 (t0 t1 : Value) : M := jn (fun (j1 : Value → M) => lo (fun _ _ _ _ => bot) (f15_b2 j1) (fun l => l t0 t1 (.slice none 0 0) (.int .i64 0)) ) (f15_j1)
def f47_b2 (j1 : M) (self2 : Value → Value → Value → Value → M) (t0_1 t1_1 t7_1 t8 : Value) : M := lt .i64 t8 t7_1 fun t9 => cnd t9 ( ia 14 t0_1 t8 fun t14 => ldn 14 t14 fun t15 => cf Try.prog t1_1 #[t15] fun t16 => cnd t16 ( rt t8 ) ( ad .i64 t8 (.int .i64 1) fun t18 => self2 t0_1 t1_1 t7_1 t18 ) ) ( j1 )
def f47_j1 : M := rt (.int .i64 (-1))
def f47 (t0 t1 : Value) : M := lnl t0 fun t7 => jn (fun (j1 : M) => lo (fun _ _ _ _ => bot) (f47_b2 j1) (fun l => l t0 t1 t7 (.int .i64 0)) ) (f47_j1)
def f28_j3 (self2 : Value → Value → Value → Value → M) (t0_2 t1_2 t5_1 t6_1 : Value) : M := ad .i64 t6_1 (.int .i64 1) fun t21 => self2 t0_2 t1_2 t5_1 t21
def f28_b2 (j1 : Value → Value → M) (self2 : Value → Value → Value → Value → M) (t0_1 t1_1 t5 t6 : Value) : M := lnl t0_1 fun t18 => lt .i64 t6 t18 fun t19 => cnd t19 ( ia 14 t0_1 t6 fun t24 => ldn 14 t24 fun t25 => al 55 #[(.int .i64 0), (.int .i64 0), (.int .i64 0), (.int .i64 0), (.string ⟨#[]⟩), (.int .i64 0), (.int .i64 0), (.int .i64 0), (.int .i64 0), (.int .i64 0), (.string ⟨#[]⟩), (.int .i64 0), (.slice none 0 0), (.bool false)] fun t7 => stn 14 t7 t25 <| ldn 14 t7 fun t27 => cf Try.prog t1_1 #[t27] fun t28 => nt t28 fun t29 => jn (fun (j3 : Value → Value → Value → Value → M) => cnd t29 ( ldn 14 t7 fun t32 => ia 14 t0_1 t5 fun t33 => stn 14 t33 t32 <| ad .i64 t5 (.int .i64 1) fun t35 => j3 t0_1 t1_1 t35 t6 ) ( j3 t0_1 t1_1 t5 t6 ) ) (f28_j3 self2) ) ( j1 t0_1 t5 )
def f28_j1 (t0_3 t5_2 : Value) : M := sll 14 t0_3 (some t5_2) none fun t38 => sm Try.prog (Builtin.clear_ #[22] 0 #[t38]) fun _ => sll 14 t0_3 none (some t5_2) fun t41 => rt t41
def f28 (t0 t1 : Value) : M := cl (f47 t0 t1) fun t10 => eqi .i64 t10 (.int .i64 (-1)) fun t12 => cnd t12 ( rt t0 ) ( ad .i64 t10 (.int .i64 1) fun t15 => jn (fun (j1 : Value → Value → M) => lo (fun _ _ _ _ => bot) (f28_b2 j1) (fun l => l t0 t1 t10 t15) ) (f28_j1) )
def f29 (t0 : Value) : M := smr Try.prog (do eqGuard .eql 22 (.tmp 3) (.const (.slice none 0 0)) t0 (.slice none 0 0); binOp .eql 22 t0 (.slice none 0 0)) fun t4 => cnd t4 ( rt (.slice none 0 0) ) ( sm Try.prog (Instr.buildSlice 22 0 #[]) fun t5 => sm Try.prog (Builtin.append_ #[22, 22] 22 #[t5, t0]) fun t7 => rt t7 )
theorem s29 (t0 : Value) (w : World) (Q : Value → World → Prop) (h : f29 t0 w Q) : Calls Try.prog 29 #[t0] w (Rt Q) := by
  refine calls_of (l := [t0]) Try.func29 rfl Try.ntmps29 (Nat.le_of_ble_eq_true rfl) ?_
  unfold f29 at h
  refine wp_seq ?_
  refine L_region ?_
  refine L_as ?_
  refine L_nil ?_
  refine E_n ?_
  refine wp_seq ?_
  refine wp_seq ?_
  refine L_region ?_
  refine L_mv ?_
  refine L_u (P_smr rfl h) ?_
  intro v w h
  refine L_nil ?_
  refine E_n ?_
  refine C_cnd h (fun h => ?_) (fun h => ?_)
  · refine wp_seq ?_
    refine L_region ?_
    refine L_as ?_
    refine L_nil ?_
    refine E_n ?_
    refine C_ret ?_
    show bodyPost Try.prog Try.f29 (Rt Q) .ret _ _
    exact post_tmps (ts := [2]) (.inr rfl) rfl h
  · refine C_skip ?_
    refine E_n ?_
    refine wp_seq ?_
    refine L_region ?_
    refine L_u (N_bsl h) ?_
    intro v w h
    refine L_mv ?_
    refine L_u (N_bi rfl h) ?_
    intro v w h
    refine L_as ?_
    refine L_nil ?_
    refine E_n ?_
    refine C_ret ?_
    show bodyPost Try.prog Try.f29 (Rt Q) .ret _ _
    exact post_tmps (ts := [2]) (.inr rfl) rfl h

def f30 (t0 : Value) : M := bx 55 t0 fun t1 => fa 5 t1 fun t3 => ld t3 fun t4 => nei .i64 t4 (.int .i64 2) fun t5 => rt t5
def f31_j3 (self2 : Value → Value → Value → Value → Value → M) (t0_2 t1_2 t4_2 t5_2 t6_1 : Value) : M := ad .i64 t6_1 (.int .i64 1) fun t19 => self2 t0_2 t1_2 t4_2 t5_2 t19
def f31_b2 (j1 : Value → Value → M) (self2 : Value → Value → Value → Value → Value → M) (t0_1 t1_1 t4_1 t5_1 t6 : Value) : M := lnl t0_1 fun t16 => lt .i64 t6 t16 fun t17 => cnd t17 ( dr <| idv t1_1 fun t20 => idv t0_1 fun t21 => idv t6 fun t22 => ia 14 t21 t22 fun t23 => ldn 14 t23 fun t24 => ldn 14 t5_1 fun t25 => cf Try.prog t20 #[t24, t25] fun t26 => lt .i64 t26 (.int .i64 0) fun t27 => jn (fun (j3 : Value → Value → Value → Value → Value → M) => cnd t27 ( ia 14 t0_1 t6 fun t30 => ldn 14 t30 fun t31 => stn 14 t5_1 t31 <| j3 t0_1 t1_1 t4_1 t5_1 t6 ) ( j3 t0_1 t1_1 t4_1 t5_1 t6 ) ) (f31_j3 self2) ) ( j1 t4_1 t5_1 )
def f31_j1 (t4_3 t5_3 : Value) : M := ldn 14 t5_3 fun t32 => stn 14 t4_3 t32 <| ldn 14 t4_3 fun r0 => rt r0
def f31 (t0 t1 : Value) : M := al 55 #[(.int .i64 0), (.int .i64 0), (.int .i64 0), (.int .i64 0), (.string ⟨#[]⟩), (.int .i64 0), (.int .i64 0), (.int .i64 0), (.int .i64 0), (.int .i64 0), (.string ⟨#[]⟩), (.int .i64 0), (.slice none 0 0), (.bool false)] fun t4 => lnl t0 fun t8 => lt .i64 t8 (.int .i64 1) fun t9 => cnd t9 ( mif 9 (.string ⟨#[115, 108, 105, 99, 101, 115, 46, 77, 105, 110, 70, 117, 110, 99, 58, 32, 101, 109, 112, 116, 121, 32, 108, 105, 115, 116]⟩) fun t10 => bot ) ( ia 14 t0 (.int .i64 0) fun t12 => ldn 14 t12 fun t13 => al 55 #[(.int .i64 0), (.int .i64 0), (.int .i64 0), (.int .i64 0), (.string ⟨#[]⟩), (.int .i64 0), (.int .i64 0), (.int .i64 0), (.int .i64 0), (.int .i64 0), (.string ⟨#[]⟩), (.int .i64 0), (.slice none 0 0), (.bool false)] fun t5 => stn 14 t5 t13 <| jn (fun (j1 : Value → Value → M) => lo (fun _ _ _ _ _ => bot) (f31_b2 j1) (fun l => l t0 t1 t4 t5 (.int .i64 1)) ) (f31_j1) )
def f48 (t0 : Value) : M := nei .i64 t0 t0 fun t5 => rt t5
def f33 (t0 t1 : Value) : M := cl (f48 t0) fun t8 => cl (f48 t1) fun t10 => cnd t8 ( cnd t10 ( rt (.int .i64 0) ) ( rt (.int .i64 (-1)) ) ) ( cnd t10 ( rt (.int .i64 1) ) ( lt .i64 t0 t1 fun t16 => cnd t16 ( rt (.int .i64 (-1)) ) ( gt .i64 t0 t1 fun t19 => cnd t19 ( rt (.int .i64 1) ) ( rt (.int .i64 0) ) ) ) )
def f32 (t0 t1 : Value) : M := bx 55 t0 fun t2 => bx 55 t1 fun t3 => fa 7 t2 fun t5 => ld t5 fun t6 => fa 7 t3 fun t7 => ld t7 fun t8 => cl (f33 t6 t8) fun t9 => rt t9
def f16 (t0 : Value) : M := cl (f29 t0) fun t6 => cl (f28 t6 (.func (.func 30) #[] #[])) fun t7 => lnl t7 fun t9 => eqi .i64 t9 (.int .i64 0) fun t10 => cnd t10 ( rt (.tuple #[(.int .i64 0), (.bool false)]) ) ( cl (f31 t7 (.func (.func 32) #[] #[])) fun t12 => fld 7 t12 fun t13 => rt (.tuple #[t13, (.bool true)]) )
def f17_j3 (self2 : Value → Value → Value → Value → M) (t0_2 t4_1 t5_1 t6_1 : Value) : M := ad .i64 t6_1 (.int .i64 1) fun t12 => self2 t0_2 t4_1 t5_1 t12
def f17_b2 (j1 : Value → Value → M) (self2 : Value → Value → Value → Value → M) (t0_1 t4 t5 t6 : Value) : M := lnl t0_1 fun t9 => lt .i64 t6 t9 fun t10 => cnd t10 ( ia 14 t0_1 t6 fun t15 => fa 5 t15 fun t16 => ld t16 fun t17 => eqi .i64 t17 (.int .i64 2) fun t18 => gd t18 true (idv t5) fun t20 => gd t18 true (nt t20) fun t21 => gd t18 true (idv t21) fun t22 => gd t22 false (idv t0_1) fun t23 => gd t22 false (idv t6) fun t24 => gd t22 false (ia 14 t23 t24) fun t25 => gd t22 false (fa 7 t25) fun t26 => gd t22 false (ld t26) fun t27 => gd t22 false (idv t4) fun t28 => gd t22 false (lt .i64 t27 t28) fun t29 => gd t18 true (pk t22 (.bool true) t29) fun t30 => pk t18 t30 (.bool false) fun t31 => jn (fun (j3 : Value → Value → Value → Value → M) => cnd t31 ( ia 14 t0_1 t6 fun t34 => fa 7 t34 fun t35 => ld t35 fun t36 => j3 t0_1 t36 (.bool true) t6 ) ( j3 t0_1 t4 t5 t6 ) ) (f17_j3 self2) ) ( j1 t4 t5 )
def f17_j1 (t4_2 t5_2 : Value) : M := rt (.tuple #[t4_2, t5_2])
def f17 (t0 : Value) : M := jn (fun (j1 : Value → Value → M) => lo (fun _ _ _ _ => bot) (f17_b2 j1) (fun l => l t0 (.int .i64 0) (.bool false) (.int .i64 0)) ) (f17_j1)
end Go.Proofs.Ytiajdaagamhbnaa

set_option maxRecDepth 20000
set_option maxHeartbeats 4000000
namespace Go.Proofs.Ytiajdaagamhbnaa
open Sh
attribute [local irreducible] wpL anyG act jn lo gdB amb kp smr nc fa ld ldn st stn ad su mu qu re lt le gt ge eqi nei bws shl shr cat eqs nes lts gts eqb neb nt pk cv al bx ex fld fldn lnl lns ia iaa ixs sls sll sla mif mnm mxm mm asrt sm smu cl cc cf ci cnd gd gdu
def f4_b2 (j1 : Value → M) (self2 : Value → Value → Value → Value → M) (t0_1 t3 t4 t5 : Value) : M := lnl t3 fun t33 => lt .i64 t5 t33 fun t34 => cnd t34 ( dr <| idv t3 fun t37 => idv t5 fun t38 => ia 7 t37 t38 fun t39 => fa 0 t39 fun t40 => ld t40 fun t41 => idv t4 fun t42 => idv t5 fun t43 => ia 1 t42 t43 fun t44 => ld t44 fun t45 => nei .i64 t41 t45 fun t46 => idv t46 fun t47 => gd t47 false (idv t3) fun t48 => gd t47 false (idv t5) fun t49 => gd t47 false (ia 7 t48 t49) fun t50 => gd t47 false (fa 1 t50) fun t51 => gd t47 false (ldn 6 t51) fun t52 => gd t47 false (idv t0_1) fun t54 => gd t47 false (idv t4) fun t55 => gd t47 false (idv t5) fun t56 => gd t47 false (ia 1 t55 t56) fun t57 => gd t47 false (ld t57) fun t58 => gd t47 false (cl (f13 t52)) fun t53 => kp (fun w => gdB t47 false = true → Kld t57 t58 w) <| gd t47 false (cl (f15 t54 t58)) fun t59 => gd t47 false (cl (f14 t59)) fun t60 => gd t47 false (smr Try.prog (do eqGuard .neq 37 (.tmp 53) (.tmp 60) t53 t60; binOp .neq 37 t53 t60)) fun t61 => pk t47 (.bool true) t61 fun t62 => cnd t62 ( rt (.bool false) ) ( ad .i64 t5 (.int .i64 1) fun t36 => self2 t0_1 t3 t4 t36 ) ) ( j1 t0_1 )
def f4_j1 (t0_2 : Value) : M := cl (f16 t0_2) fun t65 => ex 0 t65 fun t66 => ex 1 t65 fun t67 => cl (f17 t0_2) fun t70 => ex 0 t70 fun t71 => ex 1 t70 fun t72 => eqi .i64 t66 t71 fun t75 => gd t75 true (idv t67) fun t77 => gd t75 true (idv t72) fun t78 => gd t75 true (eqb t77 t78) fun t79 => pk t75 t79 (.bool false) fun t80 => rt t80
def f4 (t0 : Value) : M := cl (f7) fun t10 => nt t10 fun t11 => cnd t11 ( rt (.bool false) ) ( cl (f8 t0) fun t13 => cl (f9 t13) fun t15 => cl (f12 t13) fun t17 => cl (f11 t13) fun t19 => cl (f13 t19) fun t20 => cl (f14 t13) fun t22 => smr Try.prog (do eqGuard .neq 37 (.tmp 20) (.tmp 22) t20 t22; binOp .neq 37 t20 t22) fun t23 => gd t23 false (idv t15) fun t25 => gd t23 false (lnl t25) fun t26 => gd t23 false (idv t17) fun t27 => gd t23 false (lnl t27) fun t28 => gd t23 false (nei .i64 t26 t28) fun t29 => pk t23 (.bool true) t29 fun t30 => cnd t30 ( rt (.bool false) ) ( jn (fun (j1 : Value → M) => lo (fun _ _ _ _ => bot) (f4_b2 j1) (fun l => l t13 t15 t17 (.int .i64 0)) ) (f4_j1) ) )
def f57_b2 (j1 : M) (self2 : Value → Value → Value → M) (t0_1 t1_1 t5 : Value) : M := lnl t0_1 fun t13 => lt .i64 t5 t13 fun t14 => cnd t14 ( dr <| idv t0_1 fun t17 => idv t5 fun t18 => ia 3 t17 t18 fun t19 => ldn 3 t19 fun t20 => idv t1_1 fun t21 => idv t5 fun t22 => ia 3 t21 t22 fun t23 => ldn 3 t23 fun t24 => smr Try.prog (do eqGuard .neq 50 (.tmp 20) (.tmp 24) t20 t24; binOp .neq 50 t20 t24) fun t25 => cnd t25 ( rt (.bool false) ) ( ad .i64 t5 (.int .i64 1) fun t16 => self2 t0_1 t1_1 t16 ) ) ( j1 )
def f57_j1 : M := rt (.bool true)
def f57 (t0 t1 : Value) : M := lnl t0 fun t7 => lnl t1 fun t9 => nei .i64 t7 t9 fun t10 => cnd t10 ( rt (.bool false) ) ( jn (fun (j1 : M) => lo (fun _ _ _ => bot) (f57_b2 j1) (fun l => l t0 t1 (.int .i64 0)) ) (f57_j1) )
def f49 (t0 t1 : Value) : M := bx 53 t0 fun t2 => bx 53 t1 fun t3 => fa 0 t2 fun t5 => ld t5 fun t6 => fa 0 t3 fun t7 => ld t7 fun t8 => eqi .i64 t6 t8 fun t9 => gd t9 true (fa 1 t2) fun t11 => gd t9 true (ld t11) fun t12 => gd t9 true (fa 1 t3) fun t13 => gd t9 true (ld t13) fun t14 => gd t9 true (cl (f57 t12 t14)) fun t15 => pk t9 t15 (.bool false) fun t16 => rt t16
def f34 (t0 t1 : Value) : M := bx 55 t0 fun t2 => bx 55 t1 fun t3 => fa 0 t2 fun t5 => ld t5 fun t6 => fa 0 t3 fun t7 => ld t7 fun t8 => eqi .i64 t6 t8 fun t9 => gd t9 true (fa 1 t2) fun t11 => gd t9 true (ld t11) fun t12 => gd t9 true (fa 1 t3) fun t13 => gd t9 true (ld t13) fun t14 => gd t9 true (eqi .i64 t12 t14) fun t15 => pk t9 t15 (.bool false) fun t16 => gd t16 true (fa 2 t2) fun t18 => gd t16 true (ldn 3 t18) fun t19 => gd t16 true (fa 2 t3) fun t20 => gd t16 true (ldn 3 t20) fun t21 => gd t16 true (smr Try.prog (do eqGuard .eql 50 (.tmp 19) (.tmp 21) t19 t21; binOp .eql 50 t19 t21)) fun t22 => pk t16 t22 (.bool false) fun t23 => gd t23 true (fa 5 t2) fun t25 => gd t23 true (ld t25) fun t26 => gd t23 true (fa 5 t3) fun t27 => gd t23 true (ld t27) fun t28 => gd t23 true (eqi .i64 t26 t28) fun t29 => pk t23 t29 (.bool false) fun t30 => gd t30 true (fa 6 t2) fun t32 => gd t30 true (ld t32) fun t33 => gd t30 true (fa 6 t3) fun t34 => gd t30 true (ld t34) fun t35 => gd t30 true (eqi .i64 t33 t35) fun t36 => pk t30 t36 (.bool false) fun t37 => gd t37 true (fa 7 t2) fun t39 => gd t37 true (ld t39) fun t40 => gd t37 true (fa 7 t3) fun t41 => gd t37 true (ld t41) fun t42 => gd t37 true (eqi .i64 t40 t42) fun t43 => pk t37 t43 (.bool false) fun t44 => gd t44 true (fa 8 t2) fun t46 => gd t44 true (ldn 3 t46) fun t47 => gd t44 true (fa 8 t3) fun t48 => gd t44 true (ldn 3 t48) fun t49 => gd t44 true (smr Try.prog (do eqGuard .eql 50 (.tmp 47) (.tmp 49) t47 t49; binOp .eql 50 t47 t49)) fun t50 => pk t44 t50 (.bool false) fun t51 => gd t51 true (fa 13 t2) fun t53 => gd t51 true (ld t53) fun t54 => gd t51 true (fa 13 t3) fun t55 => gd t51 true (ld t55) fun t56 => gd t51 true (eqb t54 t56) fun t57 => pk t51 t57 (.bool false) fun t58 => gd t58 true (fa 11 t2) fun t60 => gd t58 true (ldn 2 t60) fun t61 => gd t58 true (fa 11 t3) fun t62 => gd t58 true (ldn 2 t62) fun t63 => gd t58 true (cl (f49 t61 t63)) fun t64 => pk t58 t64 (.bool false) fun t65 => rt t65
def f18_b2 (j1 : M) (self2 : Value → Value → Value → M) (t0_1 t1_1 t5 : Value) : M := lnl t0_1 fun t13 => lt .i64 t5 t13 fun t14 => cnd t14 ( dr <| idv t0_1 fun t17 => idv t5 fun t18 => ia 14 t17 t18 fun t19 => ldn 14 t19 fun t20 => idv t1_1 fun t21 => idv t5 fun t22 => ia 14 t21 t22 fun t23 => ldn 14 t23 fun t24 => cl (f34 t20 t24) fun t25 => nt t25 fun t26 => cnd t26 ( rt (.bool false) ) ( ad .i64 t5 (.int .i64 1) fun t16 => self2 t0_1 t1_1 t16 ) ) ( j1 )
def f18_j1 : M := rt (.bool true)
def f18 (t0 t1 : Value) : M := lnl t0 fun t7 => lnl t1 fun t9 => nei .i64 t7 t9 fun t10 => cnd t10 ( rt (.bool false) ) ( jn (fun (j1 : M) => lo (fun _ _ _ => bot) (f18_b2 j1) (fun l => l t0 t1 (.int .i64 0)) ) (f18_j1) )
def f58_b3 (j2 : Value → Value → Value → Value → Value → M) (self3 : Value → Value → Value → Value → Value → Value → M) (t0_2 t1_2 t2_2 t3_2 t8_1 t9 : Value) : M := dr <| idv t9 fun t18 => idv t1_2 fun t19 => gt .i64 t18 t19 fun t20 => idv t20 fun t21 => gd t21 true (idv t3_2) fun t22 => gd t21 true (idv t0_2) fun t23 => gd t21 true (idv t9) fun t24 => gd t21 true (ia 14 t23 t24) fun t25 => gd t21 true (ldn 14 t25) fun t26 => gd t21 true (idv t0_2) fun t27 => gd t21 true (idv t9) fun t28 => gd t21 true (su .i64 t28 (.int .i64 1)) fun t29 => gd t21 true (ia 14 t27 t29) fun t30 => gd t21 true (ldn 14 t30) fun t31 => gd t21 true (cf Try.prog t22 #[t26, t31]) fun t32 => gd t21 true (lt .i64 t32 (.int .i64 0)) fun t33 => pk t21 t33 (.bool false) fun t34 => cnd t34 ( dr <| idv t0_2 fun t37 => idv t9 fun t38 => idv t0_2 fun t39 => idv t9 fun t40 => su .i64 t40 (.int .i64 1) fun t41 => idv t0_2 fun t42 => idv t9 fun t43 => su .i64 t43 (.int .i64 1) fun t44 => ia 14 t42 t44 fun t45 => ldn 14 t45 fun t46 => idv t0_2 fun t47 => idv t9 fun t48 => ia 14 t47 t48 fun t49 => ldn 14 t49 fun t50 => ia 14 t37 t38 fun t51 => stn 14 t51 t46 <| ia 14 t39 t41 fun t52 => stn 14 t52 t50 <| su .i64 t9 (.int .i64 1) fun t36 => self3 t0_2 t1_2 t2_2 t3_2 t8_1 t36 ) ( j2 t0_2 t1_2 t2_2 t3_2 t8_1 )
def f58_j2 (self1 : Value → Value → Value → Value → Value → M) (t0_3 t1_3 t2_3 t3_3 t8_2 : Value) : M := ad .i64 t8_2 (.int .i64 1) fun t16 => self1 t0_3 t1_3 t2_3 t3_3 t16
def f58_b1 (self1 : Value → Value → Value → Value → Value → M) (t0_1 t1_1 t2_1 t3_1 t8 : Value) : M := lt .i64 t8 t2_1 fun t14 => cnd t14 ( jn (fun (j2 : Value → Value → Value → Value → Value → M) => lo (fun _ _ _ _ _ _ => bot) (f58_b3 j2) (fun l => l t0_1 t1_1 t2_1 t3_1 t8 t8) ) (f58_j2 self1) ) ( rt (.tuple #[]) )
def f58 (t0 t1 t2 t3 : Value) : M := ad .i64 t1 (.int .i64 1) fun t11 => lo (fun _ _ _ _ _ => bot) (f58_b1) (fun l => l t0 t1 t2 t3 t11)
theorem s58 (t0 t1 t2 t3 : Value) (w : World) (Q : Value → World → Prop) (h : f58 t0 t1 t2 t3 w Q) : Calls Try.prog 58 #[t0, t1, t2, t3] w (Rt Q) := by
  refine calls_of (l := [t0, t1, t2, t3]) Try.func58 rfl Try.ntmps58 (Nat.le_of_ble_eq_true rfl) ?_
  unfold f58 at h
  refine wp_seq ?_
  refine L_region ?_
  refine L_mv ?_
  refine L_u (P_ad h) ?_
  intro v w h
  refine L_as ?_
  refine L_nil ?_
  refine E_n ?_
  refine C_blk ?_
  refine C_lo (fun (l : Value → Value → Value → Value → Value → M) (ρ : Nat → Value) => l (ρ 0) (ρ 1) (ρ 2) (ρ 3) (ρ 8)) h (fun ρ w h => h) (fun nx self1 L1 ρ w h => ?_)
  unfold f58_b1 at h
  refine wp_seq ?_
  refine wp_seq ?_
  refine L_region ?_
  refine L_mv ?_
  refine L_mv ?_
  refine L_u (P_lt h) ?_
  intro v w h
  refine L_nil ?_
  refine E_n ?_
  refine C_cnd h (fun h => ?_) (fun h => ?_)
  · refine C_skip ?_
    refine E_n ?_
    refine wp_seq ?_
    refine C_blk ?_
    refine wp_seq ?_
    refine L_region ?_
    refine L_mv ?_
    refine L_as ?_
    refine L_nil ?_
    refine E_n ?_
    refine C_join (fun (k : Value → Value → Value → Value → Value → M) (ρ : Nat → Value) => k (ρ 0) (ρ 1) (ρ 2) (ρ 3) (ρ 8)) h (fun j2 J2 h => ?_) (fun ρ w h => ?_)
    · refine C_blk ?_
      refine C_lo (fun (l : Value → Value → Value → Value → Value → Value → M) (ρ : Nat → Value) => l (ρ 0) (ρ 1) (ρ 2) (ρ 3) (ρ 8) (ρ 9)) h (fun ρ w h => h) (fun nx self3 L3 ρ w h => ?_)
      unfold f58_b3 at h
      refine wp_seq ?_
      refine wp_seq ?_
      refine D_region (by decide +kernel) 17 rfl ?_
      replace h := dr_e h
      refine G_p 0 rfl (by decide +kernel) (Y_mv h) ?_
      intro v h
      refine G_p 1 rfl (by decide +kernel) (Y_mv h) ?_
      intro v h
      refine G_p 2 rfl (by decide +kernel) (Y_gt h) ?_
      intro v h
      refine G_p 3 rfl (by decide +kernel) (Y_mv h) ?_
      intro v h
      refine G_pg (t := 21) 4 rfl (by decide +kernel) h rfl rfl (fun h => Y_mv h) ?_
      intro v h
      refine G_pg (t := 21) 5 rfl (by decide +kernel) h rfl rfl (fun h => Y_mv h) ?_
      intro v h
      refine G_pg (t := 21) 6 rfl (by decide +kernel) h rfl rfl (fun h => Y_mv h) ?_
      intro v h
      refine G_pg (t := 21) 7 rfl (by decide +kernel) h rfl rfl (fun h => Y_ia se22 h) ?_
      intro v h
      refine G_rg (t := 21) _ 8 rfl (by decide +kernel) h rfl rfl (fun h => R_ldn ag55 h) ?_
      intro v h
      refine G_pg (t := 21) 9 rfl (by decide +kernel) h rfl rfl (fun h => Y_mv h) ?_
      intro v h
      refine G_pg (t := 21) 10 rfl (by decide +kernel) h rfl rfl (fun h => Y_mv h) ?_
      intro v h
      refine G_pg (t := 21) 11 rfl (by decide +kernel) h rfl rfl (fun h => Y_su h) ?_
      intro v h
      refine G_pg (t := 21) 12 rfl (by decide +kernel) h rfl rfl (fun h => Y_ia se22 h) ?_
      intro v h
      refine G_rg (t := 21) _ 13 rfl (by decide +kernel) h rfl rfl (fun h => R_ldn ag55 h) ?_
      intro v h
      refine G_eg (t := 21) 14 rfl (by decide +kernel) h rfl rfl (fun c h => N_cf h c) ?_
      intro v w h
      refine ⟨keepF_dep [13] (by decide +kernel) rfl (keepF_dep [8] (by decide +kernel) rfl keepF_nil), ?_⟩
      refine G_pg (t := 21) 15 rfl (by decide +kernel) h rfl rfl (fun h => Y_lt h) ?_
      intro v h
      refine G_p 16 rfl (by decide +kernel) (Y_pk h) ?_
      intro v h
      refine G_done (by decide +kernel) ?_
      refine E_n ?_
      refine C_cnd h (fun h => ?_) (fun h => ?_)
      · refine C_skip ?_
        refine E_n ?_
        refine wp_seq ?_
        refine C_blk ?_
        refine D_region (by decide +kernel) 18 rfl ?_
        replace h := dr_e h
        refine G_p 0 rfl (by decide +kernel) (Y_mv h) ?_
        intro v h
        refine G_p 1 rfl (by decide +kernel) (Y_mv h) ?_
        intro v h
        refine G_p 2 rfl (by decide +kernel) (Y_mv h) ?_
        intro v h
        refine G_p 3 rfl (by decide +kernel) (Y_mv h) ?_
        intro v h
        refine G_p 4 rfl (by decide +kernel) (Y_su h) ?_
        intro v h
        refine G_p 5 rfl (by decide +kernel) (Y_mv h) ?_
        intro v h
        refine G_p 6 rfl (by decide +kernel) (Y_mv h) ?_
        intro v h
        refine G_p 7 rfl (by decide +kernel) (Y_su h) ?_
        intro v h
        refine G_p 8 rfl (by decide +kernel) (Y_ia se22 h) ?_
        intro v h
        refine G_r _ 9 rfl (by decide +kernel) (R_ldn ag55 h) ?_
        intro v h
        refine G_p 10 rfl (by decide +kernel) (Y_mv h) ?_
        intro v h
        refine G_p 11 rfl (by decide +kernel) (Y_mv h) ?_
        intro v h
        refine G_p 12 rfl (by decide +kernel) (Y_ia se22 h) ?_
        intro v h
        refine G_r _ 13 rfl (by decide +kernel) (R_ldn ag55 h) ?_
        intro v h
        refine G_p 14 rfl (by decide +kernel) (Y_ia se22 h) ?_
        intro v h
        refine G_e 15 rfl (by decide +kernel) (P_stn ag55 h ?_)
        intro w h
        refine ⟨keepF_dep [13] (by decide +kernel) rfl (keepF_dep [9] (by decide +kernel) rfl keepF_nil), ?_⟩
        refine G_p 16 rfl (by decide +kernel) (Y_ia se22 h) ?_
        intro v h
        refine G_e 17 rfl (by decide +kernel) (P_stn ag55 h ?_)
        intro w h
        refine ⟨keepF_dep [13] (by decide +kernel) rfl (keepF_dep [9] (by decide +kernel) rfl keepF_nil), ?_⟩
        refine G_done (by decide +kernel) ?_
        refine B_n ?_
        refine E_n ?_
        refine L_region ?_
        refine L_mv ?_
        refine L_u (P_su h) ?_
        intro v w h
        refine L_as ?_
        refine L_nil ?_
        refine E_n ?_
        exact L3 _ _ h
      · refine C_exit ?_
        refine E_x ?_
        refine E_x ?_
        refine B_x ?_
        exact J2 _ _ h
    · unfold f58_j2 at h
      refine B_n ?_
      refine E_n ?_
      refine L_region ?_
      refine L_mv ?_
      refine L_u (P_ad h) ?_
      intro v w h
      refine L_as ?_
      refine L_nil ?_
      refine E_n ?_
      exact L1 _ _ h
  · refine C_exit ?_
    refine E_x ?_
    refine E_x ?_
    refine B_x ?_
    show bodyPost Try.prog Try.f58 (Rt Q) .normal _ _
    exact post_tmps (ts := []) (.inl rfl) rfl h

def f80_b1 (self1 : Value → Value → Value → Value → Value → M) (t0_1 t1_1 t2_1 t3_1 t10 : Value) : M := lt .i64 t10 t3_1 fun t13 => cnd t13 ( dr <| idv t0_1 fun t16 => idv t1_1 fun t17 => idv t10 fun t18 => ad .i64 t17 t18 fun t19 => idv t0_1 fun t20 => idv t2_1 fun t21 => idv t10 fun t22 => ad .i64 t21 t22 fun t23 => idv t0_1 fun t24 => idv t2_1 fun t25 => idv t10 fun t26 => ad .i64 t25 t26 fun t27 => ia 14 t24 t27 fun t28 => ldn 14 t28 fun t29 => idv t0_1 fun t30 => idv t1_1 fun t31 => idv t10 fun t32 => ad .i64 t31 t32 fun t33 => ia 14 t30 t33 fun t34 => ldn 14 t34 fun t35 => ia 14 t16 t19 fun t36 => stn 14 t36 t29 <| ia 14 t20 t23 fun t37 => stn 14 t37 t35 <| ad .i64 t10 (.int .i64 1) fun t15 => self1 t0_1 t1_1 t2_1 t3_1 t15 ) ( rt (.tuple #[]) )
def f80 (t0 t1 t2 t3 t4 : Value) : M := lo (fun _ _ _ _ _ => bot) (f80_b1) (fun l => l t0 t1 t2 t3 (.int .i64 0))
theorem s80 (t0 t1 t2 t3 t4 : Value) (w : World) (Q : Value → World → Prop) (h : f80 t0 t1 t2 t3 t4 w Q) : Calls Try.prog 80 #[t0, t1, t2, t3, t4] w (Rt Q) := by
  refine calls_of (l := [t0, t1, t2, t3, t4]) Try.func80 rfl Try.ntmps80 (Nat.le_of_ble_eq_true rfl) ?_
  unfold f80 at h
  refine wp_seq ?_
  refine L_region ?_
  refine L_as ?_
  refine L_nil ?_
  refine E_n ?_
  refine C_blk ?_
  refine C_lo (fun (l : Value → Value → Value → Value → Value → M) (ρ : Nat → Value) => l (ρ 0) (ρ 1) (ρ 2) (ρ 3) (ρ 10)) h (fun ρ w h => h) (fun nx self1 L1 ρ w h => ?_)
  unfold f80_b1 at h
  refine wp_seq ?_
  refine wp_seq ?_
  refine L_region ?_
  refine L_mv ?_
  refine L_mv ?_
  refine L_u (P_lt h) ?_
  intro v w h
  refine L_nil ?_
  refine E_n ?_
  refine C_cnd h (fun h => ?_) (fun h => ?_)
  · refine C_skip ?_
    refine E_n ?_
    refine wp_seq ?_
    refine C_blk ?_
    refine D_region (by decide +kernel) 24 rfl ?_
    replace h := dr_e h
    refine G_p 0 rfl (by decide +kernel) (Y_mv h) ?_
    intro v h
    refine G_p 1 rfl (by decide +kernel) (Y_mv h) ?_
    intro v h
    refine G_p 2 rfl (by decide +kernel) (Y_mv h) ?_
    intro v h
    refine G_p 3 rfl (by decide +kernel) (Y_ad h) ?_
    intro v h
    refine G_p 4 rfl (by decide +kernel) (Y_mv h) ?_
    intro v h
    refine G_p 5 rfl (by decide +kernel) (Y_mv h) ?_
    intro v h
    refine G_p 6 rfl (by decide +kernel) (Y_mv h) ?_
    intro v h
    refine G_p 7 rfl (by decide +kernel) (Y_ad h) ?_
    intro v h
    refine G_p 8 rfl (by decide +kernel) (Y_mv h) ?_
    intro v h
    refine G_p 9 rfl (by decide +kernel) (Y_mv h) ?_
    intro v h
    refine G_p 10 rfl (by decide +kernel) (Y_mv h) ?_
    intro v h
    refine G_p 11 rfl (by decide +kernel) (Y_ad h) ?_
    intro v h
    refine G_p 12 rfl (by decide +kernel) (Y_ia se22 h) ?_
    intro v h
    refine G_r _ 13 rfl (by decide +kernel) (R_ldn ag55 h) ?_
    intro v h
    refine G_p 14 rfl (by decide +kernel) (Y_mv h) ?_
    intro v h
    refine G_p 15 rfl (by decide +kernel) (Y_mv h) ?_
    intro v h
    refine G_p 16 rfl (by decide +kernel) (Y_mv h) ?_
    intro v h
    refine G_p 17 rfl (by decide +kernel) (Y_ad h) ?_
    intro v h
    refine G_p 18 rfl (by decide +kernel) (Y_ia se22 h) ?_
    intro v h
    refine G_r _ 19 rfl (by decide +kernel) (R_ldn ag55 h) ?_
    intro v h
    refine G_p 20 rfl (by decide +kernel) (Y_ia se22 h) ?_
    intro v h
    refine G_e 21 rfl (by decide +kernel) (P_stn ag55 h ?_)
    intro w h
    refine ⟨keepF_dep [19] (by decide +kernel) rfl (keepF_dep [13] (by decide +kernel) rfl keepF_nil), ?_⟩
    refine G_p 22 rfl (by decide +kernel) (Y_ia se22 h) ?_
    intro v h
    refine G_e 23 rfl (by decide +kernel) (P_stn ag55 h ?_)
    intro w h
    refine ⟨keepF_dep [19] (by decide +kernel) rfl (keepF_dep [13] (by decide +kernel) rfl keepF_nil), ?_⟩
    refine G_done (by decide +kernel) ?_
    refine B_n ?_
    refine E_n ?_
    refine L_region ?_
    refine L_mv ?_
    refine L_u (P_ad h) ?_
    intro v w h
    refine L_as ?_
    refine L_nil ?_
    refine E_n ?_
    exact L1 _ _ h
  · refine C_exit ?_
    refine E_x ?_
    refine E_x ?_
    refine B_x ?_
    show bodyPost Try.prog Try.f80 (Rt Q) .normal _ _
    exact post_tmps (ts := []) (.inl rfl) rfl h

def f73_b2 (j1 : Value → Value → Value → Value → M) (self2 : Value → Value → Value → Value → Value → M) (t0_1 t2_1 t4_1 t10 t11 : Value) : M := nei .i64 t10 t11 fun t20 => cnd t20 ( gt .i64 t10 t11 fun t23 => cnd t23 ( su .i64 t2_1 t10 fun t27 => cl (f80 t0_1 t27 t2_1 t11 t4_1) fun t31 => su .i64 t10 t11 fun t34 => self2 t0_1 t2_1 t4_1 t34 t11 ) ( su .i64 t2_1 t10 fun t38 => ad .i64 t2_1 t11 fun t41 => su .i64 t41 t10 fun t43 => cl (f80 t0_1 t38 t43 t10 t4_1) fun t46 => su .i64 t11 t10 fun t49 => self2 t0_1 t2_1 t4_1 t10 t49 ) ) ( j1 t0_1 t2_1 t4_1 t10 )
def f73_j1 (t0_2 t2_2 t4_2 t10_1 : Value) : M := su .i64 t2_2 t10_1 fun t53 => cl (f80 t0_2 t53 t2_2 t10_1 t4_2) fun t57 => rt (.tuple #[])
def f73 (t0 t1 t2 t3 t4 : Value) : M := su .i64 t2 t1 fun t14 => su .i64 t3 t2 fun t17 => jn (fun (j1 : Value → Value → Value → Value → M) => lo (fun _ _ _ _ _ => bot) (f73_b2 j1) (fun l => l t0 t2 t4 t14 t17) ) (f73_j1)
theorem s73 (t0 t1 t2 t3 t4 : Value) (w : World) (Q : Value → World → Prop) (h : f73 t0 t1 t2 t3 t4 w Q) : Calls Try.prog 73 #[t0, t1, t2, t3, t4] w (Rt Q) := by
  refine calls_of (l := [t0, t1, t2, t3, t4]) Try.func73 rfl Try.ntmps73 (Nat.le_of_ble_eq_true rfl) ?_
  unfold f73 at h
  refine wp_seq ?_
  refine L_region ?_
  refine L_mv ?_
  refine L_mv ?_
  refine L_u (P_su h) ?_
  intro v w h
  refine L_as ?_
  refine L_nil ?_
  refine E_n ?_
  refine wp_seq ?_
  refine L_region ?_
  refine L_mv ?_
  refine L_mv ?_
  refine L_u (P_su h) ?_
  intro v w h
  refine L_as ?_
  refine L_nil ?_
  refine E_n ?_
  refine wp_seq ?_
  refine C_join (fun (k : Value → Value → Value → Value → M) (ρ : Nat → Value) => k (ρ 0) (ρ 2) (ρ 4) (ρ 10)) h (fun j1 J1 h => ?_) (fun ρ w h => ?_)
  · refine C_blk ?_
    refine C_lo (fun (l : Value → Value → Value → Value → Value → M) (ρ : Nat → Value) => l (ρ 0) (ρ 2) (ρ 4) (ρ 10) (ρ 11)) h (fun ρ w h => h) (fun nx self2 L2 ρ w h => ?_)
    unfold f73_b2 at h
    refine wp_seq ?_
    refine wp_seq ?_
    refine L_region ?_
    refine L_mv ?_
    refine L_mv ?_
    refine L_u (P_nei h) ?_
    intro v w h
    refine L_nil ?_
    refine E_n ?_
    refine C_cnd h (fun h => ?_) (fun h => ?_)
    · refine C_skip ?_
      refine E_n ?_
      refine C_blk ?_
      refine wp_seq ?_
      refine L_region ?_
      refine L_mv ?_
      refine L_mv ?_
      refine L_u (P_gt h) ?_
      intro v w h
      refine L_nil ?_
      refine E_n ?_
      refine C_cnd h (fun h => ?_) (fun h => ?_)
      · refine wp_seq ?_
        refine L_region ?_
        refine L_mv ?_
        refine L_mv ?_
        refine L_mv ?_
        refine L_u (P_su h) ?_
        intro v w h
        refine L_mv ?_
        refine L_mv ?_
        refine L_mv ?_
        refine L_u (N_cl Try.func80 rfl nn80 (fun w Q h => s80 _ _ _ _ _ w Q h) h) ?_
        intro v w h
        refine L_nil ?_
        refine E_n ?_
        refine L_region ?_
        refine L_mv ?_
        refine L_mv ?_
        refine L_u (P_su h) ?_
        intro v w h
        refine L_as ?_
        refine L_nil ?_
        refine B_n ?_
        refine E_n ?_
        exact L2 _ _ h
      · refine wp_seq ?_
        refine L_region ?_
        refine L_mv ?_
        refine L_mv ?_
        refine L_mv ?_
        refine L_u (P_su h) ?_
        intro v w h
        refine L_mv ?_
        refine L_mv ?_
        refine L_u (P_ad h) ?_
        intro v w h
        refine L_mv ?_
        refine L_u (P_su h) ?_
        intro v w h
        refine L_mv ?_
        refine L_mv ?_
        refine L_u (N_cl Try.func80 rfl nn80 (fun w Q h => s80 _ _ _ _ _ w Q h) h) ?_
        intro v w h
        refine L_nil ?_
        refine E_n ?_
        refine L_region ?_
        refine L_mv ?_
        refine L_mv ?_
        refine L_u (P_su h) ?_
        intro v w h
        refine L_as ?_
        refine L_nil ?_
        refine B_n ?_
        refine E_n ?_
        exact L2 _ _ h
    · refine C_exit ?_
      refine E_x ?_
      refine E_x ?_
      refine B_x ?_
      exact J1 _ _ h
  · unfold f73_j1 at h
    refine E_n ?_
    refine L_region ?_
    refine L_mv ?_
    refine L_mv ?_
    refine L_mv ?_
    refine L_u (P_su h) ?_
    intro v w h
    refine L_mv ?_
    refine L_mv ?_
    refine L_mv ?_
    refine L_u (N_cl Try.func80 rfl nn80 (fun w Q h => s80 _ _ _ _ _ w Q h) h) ?_
    intro v w h
    refine L_nil ?_
    show bodyPost Try.prog Try.f73 (Rt Q) .normal _ _
    exact post_tmps (ts := []) (.inl rfl) rfl h

def f59_b2 (j1 : Value → Value → Value → M) (self2 : Value → Value → Value → Value → Value → M) (t0_1 t1_1 t4_1 t10 t11 : Value) : M := lt .i64 t10 t11 fun t33 => cnd t33 ( ad .i64 t10 t11 fun t36 => cv .u64 t36 fun t37 => shr .u64 .u64 t37 (.int .u64 1) fun t38 => cv .i64 t38 fun t39 => dr <| idv t4_1 fun t40 => idv t0_1 fun t41 => idv t39 fun t42 => ia 14 t41 t42 fun t43 => ldn 14 t43 fun t44 => idv t0_1 fun t45 => idv t1_1 fun t46 => ia 14 t45 t46 fun t47 => ldn 14 t47 fun t48 => cf Try.prog t40 #[t44, t48] fun t49 => lt .i64 t49 (.int .i64 0) fun t50 => cnd t50 ( ad .i64 t39 (.int .i64 1) fun t52 => self2 t0_1 t1_1 t4_1 t52 t11 ) ( self2 t0_1 t1_1 t4_1 t10 t39 ) ) ( j1 t0_1 t1_1 t10 )
def f59_b3 (self3 : Value → Value → Value → M) (t0_3 t10_2 t13 : Value) : M := su .i64 t10_2 (.int .i64 1) fun t57 => lt .i64 t13 t57 fun t58 => cnd t58 ( dr <| idv t0_3 fun t61 => idv t13 fun t62 => idv t0_3 fun t63 => idv t13 fun t64 => ad .i64 t64 (.int .i64 1) fun t65 => idv t0_3 fun t66 => idv t13 fun t67 => ad .i64 t67 (.int .i64 1) fun t68 => ia 14 t66 t68 fun t69 => ldn 14 t69 fun t70 => idv t0_3 fun t71 => idv t13 fun t72 => ia 14 t71 t72 fun t73 => ldn 14 t73 fun t74 => ia 14 t61 t62 fun t75 => stn 14 t75 t70 <| ia 14 t63 t65 fun t76 => stn 14 t76 t74 <| ad .i64 t13 (.int .i64 1) fun t60 => self3 t0_3 t10_2 t60 ) ( rt (.tuple #[]) )
def f59_j1 (t0_2 t1_2 t10_1 : Value) : M := lo (fun _ _ _ => bot) (f59_b3) (fun l => l t0_2 t10_1 t1_2)
def f59_b5 (j4 : Value → Value → Value → M) (self5 : Value → Value → Value → Value → Value → M) (t0_4 t2_1 t4_2 t14 t15 : Value) : M := lt .i64 t14 t15 fun t85 => cnd t85 ( ad .i64 t14 t15 fun t88 => cv .u64 t88 fun t89 => shr .u64 .u64 t89 (.int .u64 1) fun t90 => cv .i64 t90 fun t91 => dr <| idv t4_2 fun t92 => idv t0_4 fun t93 => idv t2_1 fun t94 => ia 14 t93 t94 fun t95 => ldn 14 t95 fun t96 => idv t0_4 fun t97 => idv t91 fun t98 => ia 14 t97 t98 fun t99 => ldn 14 t99 fun t100 => cf Try.prog t92 #[t96, t100] fun t101 => lt .i64 t101 (.int .i64 0) fun t102 => nt t102 fun t103 => cnd t103 ( ad .i64 t91 (.int .i64 1) fun t105 => self5 t0_4 t2_1 t4_2 t105 t15 ) ( self5 t0_4 t2_1 t4_2 t14 t91 ) ) ( j4 t0_4 t2_1 t14 )
def f59_b6 (self6 : Value → Value → Value → M) (t0_6 t14_2 t17 : Value) : M := gt .i64 t17 t14_2 fun t110 => cnd t110 ( dr <| idv t0_6 fun t113 => idv t17 fun t114 => idv t0_6 fun t115 => idv t17 fun t116 => su .i64 t116 (.int .i64 1) fun t117 => idv t0_6 fun t118 => idv t17 fun t119 => su .i64 t119 (.int .i64 1) fun t120 => ia 14 t118 t120 fun t121 => ldn 14 t121 fun t122 => idv t0_6 fun t123 => idv t17 fun t124 => ia 14 t123 t124 fun t125 => ldn 14 t125 fun t126 => ia 14 t113 t114 fun t127 => stn 14 t127 t122 <| ia 14 t115 t117 fun t128 => stn 14 t128 t126 <| su .i64 t17 (.int .i64 1) fun t112 => self6 t0_6 t14_2 t112 ) ( rt (.tuple #[]) )
def f59_j4 (t0_5 t2_2 t14_1 : Value) : M := lo (fun _ _ _ => bot) (f59_b6) (fun l => l t0_5 t14_1 t2_2)
def f59_b9 (j8 : Value → Value → Value → Value → Value → Value → Value → Value → M) (self9 : Value → Value → Value → Value → Value → Value → Value → Value → Value → Value → M) (t0_8 t1_4 t2_4 t3_2 t4_4 t18_1 t19_1 t20_1 t21_1 t22 : Value) : M := lt .i64 t20_1 t21_1 fun t151 => cnd t151 ( ad .i64 t20_1 t21_1 fun t154 => cv .u64 t154 fun t155 => shr .u64 .u64 t155 (.int .u64 1) fun t156 => cv .i64 t156 fun t157 => dr <| idv t4_4 fun t158 => idv t0_8 fun t159 => idv t22 fun t160 => idv t157 fun t161 => su .i64 t160 t161 fun t162 => ia 14 t159 t162 fun t163 => ldn 14 t163 fun t164 => idv t0_8 fun t165 => idv t157 fun t166 => ia 14 t165 t166 fun t167 => ldn 14 t167 fun t168 => cf Try.prog t158 #[t164, t168] fun t169 => lt .i64 t169 (.int .i64 0) fun t170 => nt t170 fun t171 => cnd t171 ( ad .i64 t157 (.int .i64 1) fun t173 => self9 t0_8 t1_4 t2_4 t3_2 t4_4 t18_1 t19_1 t173 t21_1 t22 ) ( self9 t0_8 t1_4 t2_4 t3_2 t4_4 t18_1 t19_1 t20_1 t157 t22 ) ) ( j8 t0_8 t1_4 t2_4 t3_2 t4_4 t18_1 t19_1 t20_1 )
def f59_j11 (t0_11 t3_5 t4_7 t18_4 t24_1 : Value) : M := lt .i64 t18_4 t24_1 fun t208 => gd t208 true (idv t24_1) fun t210 => gd t208 true (idv t3_5) fun t211 => gd t208 true (lt .i64 t210 t211) fun t212 => pk t208 t212 (.bool false) fun t213 => cnd t213 ( cc Try.prog 59 #[t0_11, t18_4, t24_1, t3_5, t4_7] fun t219 => rt (.tuple #[]) ) ( rt (.tuple #[]) )
def f59_j10 (t0_10 t1_6 t3_4 t4_6 t18_3 t20_3 t24 : Value) : M := lt .i64 t1_6 t20_3 fun t194 => gd t194 true (idv t20_3) fun t196 => gd t194 true (idv t18_3) fun t197 => gd t194 true (lt .i64 t196 t197) fun t198 => pk t194 t198 (.bool false) fun t199 => jn (fun (j11 : Value → Value → Value → Value → Value → M) => cnd t199 ( cc Try.prog 59 #[t0_10, t1_6, t20_3, t18_3, t4_6] fun t205 => j11 t0_10 t3_4 t4_6 t18_3 t24 ) ( j11 t0_10 t3_4 t4_6 t18_3 t24 ) ) (f59_j11)
def f59_j8 (t0_9 t1_5 t2_5 t3_3 t4_5 t18_2 t19_2 t20_2 : Value) : M := su .i64 t19_2 t20_2 fun t177 => lt .i64 t20_2 t2_5 fun t180 => gd t180 true (idv t2_5) fun t182 => gd t180 true (idv t177) fun t183 => gd t180 true (lt .i64 t182 t183) fun t184 => pk t180 t184 (.bool false) fun t185 => jn (fun (j10 : Value → Value → Value → Value → Value → Value → Value → M) => cnd t185 ( cl (f73 t0_9 t20_2 t2_5 t177 t4_5) fun t191 => j10 t0_9 t1_5 t3_3 t4_5 t18_2 t20_2 t177 ) ( j10 t0_9 t1_5 t3_3 t4_5 t18_2 t20_2 t177 ) ) (f59_j10)
def f59_j7 (t0_7 t1_3 t2_3 t3_1 t4_3 t18 t19 t20 t21 : Value) : M := su .i64 t19 (.int .i64 1) fun t148 => jn (fun (j8 : Value → Value → Value → Value → Value → Value → Value → Value → M) => lo (fun _ _ _ _ _ _ _ _ _ _ => bot) (f59_b9 j8) (fun l => l t0_7 t1_3 t2_3 t3_1 t4_3 t18 t19 t20 t21 t148) ) (f59_j8)
def f59 (t0 t1 t2 t3 t4 : Value) : M := su .i64 t2 t1 fun t27 => eqi .i64 t27 (.int .i64 1) fun t28 => cnd t28 ( jn (fun (j1 : Value → Value → Value → M) => lo (fun _ _ _ _ _ => bot) (f59_b2 j1) (fun l => l t0 t1 t4 t2 t3) ) (f59_j1) ) ( su .i64 t3 t2 fun t79 => eqi .i64 t79 (.int .i64 1) fun t80 => cnd t80 ( jn (fun (j4 : Value → Value → Value → M) => lo (fun _ _ _ _ _ => bot) (f59_b5 j4) (fun l => l t0 t2 t4 t1 t2) ) (f59_j4) ) ( ad .i64 t1 t3 fun t131 => cv .u64 t131 fun t132 => shr .u64 .u64 t132 (.int .u64 1) fun t133 => cv .i64 t133 fun t134 => ad .i64 t134 t2 fun t137 => gt .i64 t2 t134 fun t140 => jn (fun (j7 : Value → Value → Value → Value → Value → Value → Value → Value → Value → M) => cnd t140 ( su .i64 t137 t3 fun t143 => j7 t0 t1 t2 t3 t4 t134 t137 t143 t134 ) ( j7 t0 t1 t2 t3 t4 t134 t137 t1 t2 ) ) (f59_j7) ) )
theorem s59 (t0 t1 t2 t3 t4 : Value) (w : World) (Q : Value → World → Prop) (h : f59 t0 t1 t2 t3 t4 w Q) : Calls Try.prog 59 #[t0, t1, t2, t3, t4] w (Rt Q) := by
  refine calls_of (l := [t0, t1, t2, t3, t4]) Try.func59 rfl Try.ntmps59 (Nat.le_of_ble_eq_true rfl) ?_
  unfold f59 at h
  refine wp_seq ?_
  refine wp_seq ?_
  refine L_region ?_
  refine L_mv ?_
  refine L_mv ?_
  refine L_u (P_su h) ?_
  intro v w h
  refine L_u (P_eqi h) ?_
  intro v w h
  refine L_nil ?_
  refine E_n ?_
  refine C_cnd h (fun h => ?_) (fun h => ?_)
  · refine wp_seq ?_
    refine L_region ?_
    refine L_mv ?_
    refine L_as ?_
    refine L_nil ?_
    refine E_n ?_
    refine wp_seq ?_
    refine L_region ?_
    refine L_mv ?_
    refine L_as ?_
    refine L_nil ?_
    refine E_n ?_
    refine wp_seq ?_
    refine C_join (fun (k : Value → Value → Value → M) (ρ : Nat → Value) => k (ρ 0) (ρ 1) (ρ 10)) h (fun j1 J1 h => ?_) (fun ρ w h => ?_)
    · refine C_blk ?_
      refine C_lo (fun (l : Value → Value → Value → Value → Value → M) (ρ : Nat → Value) => l (ρ 0) (ρ 1) (ρ 4) (ρ 10) (ρ 11)) h (fun ρ w h => h) (fun nx self2 L2 ρ w h => ?_)
      unfold f59_b2 at h
      refine wp_seq ?_
      refine wp_seq ?_
      refine L_region ?_
      refine L_mv ?_
      refine L_mv ?_
      refine L_u (P_lt h) ?_
      intro v w h
      refine L_nil ?_
      refine E_n ?_
      refine C_cnd h (fun h => ?_) (fun h => ?_)
      · refine C_skip ?_
        refine E_n ?_
        refine C_blk ?_
        refine wp_seq ?_
        refine L_region ?_
        refine L_mv ?_
        refine L_mv ?_
        refine L_u (P_ad h) ?_
        intro v w h
        refine L_u (P_cv ai3 in92 h) ?_
        intro v w h
        refine L_u (P_shr h) ?_
        intro v w h
        refine L_u (P_cv ai92 in3 h) ?_
        intro v w h
        refine L_as ?_
        refine L_nil ?_
        refine E_n ?_
        refine wp_seq ?_
        refine D_region (by decide +kernel) 11 rfl ?_
        replace h := dr_e h
        refine G_p 0 rfl (by decide +kernel) (Y_mv h) ?_
        intro v h
        refine G_p 1 rfl (by decide +kernel) (Y_mv h) ?_
        intro v h
        refine G_p 2 rfl (by decide +kernel) (Y_mv h) ?_
        intro v h
        refine G_p 3 rfl (by decide +kernel) (Y_ia se22 h) ?_
        intro v h
        refine G_r _ 4 rfl (by decide +kernel) (R_ldn ag55 h) ?_
        intro v h
        refine G_p 5 rfl (by decide +kernel) (Y_mv h) ?_
        intro v h
        refine G_p 6 rfl (by decide +kernel) (Y_mv h) ?_
        intro v h
        refine G_p 7 rfl (by decide +kernel) (Y_ia se22 h) ?_
        intro v h
        refine G_r _ 8 rfl (by decide +kernel) (R_ldn ag55 h) ?_
        intro v h
        refine G_e 9 rfl (by decide +kernel) (N_cf h ?_)
        intro v w h
        refine ⟨keepF_dep [8] (by decide +kernel) rfl (keepF_dep [4] (by decide +kernel) rfl keepF_nil), ?_⟩
        refine G_p 10 rfl (by decide +kernel) (Y_lt h) ?_
        intro v h
        refine G_done (by decide +kernel) ?_
        refine E_n ?_
        refine C_cnd h (fun h => ?_) (fun h => ?_)
        · refine L_region ?_
          refine L_mv ?_
          refine L_u (P_ad h) ?_
          intro v w h
          refine L_as ?_
          refine L_nil ?_
          refine B_n ?_
          refine E_n ?_
          exact L2 _ _ h
        · refine L_region ?_
          refine L_mv ?_
          refine L_as ?_
          refine L_nil ?_
          refine B_n ?_
          refine E_n ?_
          exact L2 _ _ h
      · refine C_exit ?_
        refine E_x ?_
        refine E_x ?_
        refine B_x ?_
        exact J1 _ _ h
    · unfold f59_j1 at h
      refine E_n ?_
      refine wp_seq ?_
      refine wp_seq ?_
      refine L_region ?_
      refine L_mv ?_
      refine L_as ?_
      refine L_nil ?_
      refine E_n ?_
      refine C_blk ?_
      refine C_lo (fun (l : Value → Value → Value → M) (ρ : Nat → Value) => l (ρ 0) (ρ 10) (ρ 13)) h (fun ρ w h => h) (fun nx self3 L3 ρ w h => ?_)
      unfold f59_b3 at h
      refine wp_seq ?_
      refine wp_seq ?_
      refine L_region ?_
      refine L_mv ?_
      refine L_mv ?_
      refine L_u (P_su h) ?_
      intro v w h
      refine L_u (P_lt h) ?_
      intro v w h
      refine L_nil ?_
      refine E_n ?_
      refine C_cnd h (fun h => ?_) (fun h => ?_)
      · refine C_skip ?_
        refine E_n ?_
        refine wp_seq ?_
        refine C_blk ?_
        refine D_region (by decide +kernel) 18 rfl ?_
        replace h := dr_e h
        refine G_p 0 rfl (by decide +kernel) (Y_mv h) ?_
        intro v h
        refine G_p 1 rfl (by decide +kernel) (Y_mv h) ?_
        intro v h
        refine G_p 2 rfl (by decide +kernel) (Y_mv h) ?_
        intro v h
        refine G_p 3 rfl (by decide +kernel) (Y_mv h) ?_
        intro v h
        refine G_p 4 rfl (by decide +kernel) (Y_ad h) ?_
        intro v h
        refine G_p 5 rfl (by decide +kernel) (Y_mv h) ?_
        intro v h
        refine G_p 6 rfl (by decide +kernel) (Y_mv h) ?_
        intro v h
        refine G_p 7 rfl (by decide +kernel) (Y_ad h) ?_
        intro v h
        refine G_p 8 rfl (by decide +kernel) (Y_ia se22 h) ?_
        intro v h
        refine G_r _ 9 rfl (by decide +kernel) (R_ldn ag55 h) ?_
        intro v h
        refine G_p 10 rfl (by decide +kernel) (Y_mv h) ?_
        intro v h
        refine G_p 11 rfl (by decide +kernel) (Y_mv h) ?_
        intro v h
        refine G_p 12 rfl (by decide +kernel) (Y_ia se22 h) ?_
        intro v h
        refine G_r _ 13 rfl (by decide +kernel) (R_ldn ag55 h) ?_
        intro v h
        refine G_p 14 rfl (by decide +kernel) (Y_ia se22 h) ?_
        intro v h
        refine G_e 15 rfl (by decide +kernel) (P_stn ag55 h ?_)
        intro w h
        refine ⟨keepF_dep [13] (by decide +kernel) rfl (keepF_dep [9] (by decide +kernel) rfl keepF_nil), ?_⟩
        refine G_p 16 rfl (by decide +kernel) (Y_ia se22 h) ?_
        intro v h
        refine G_e 17 rfl (by decide +kernel) (P_stn ag55 h ?_)
        intro w h
        refine ⟨keepF_dep [13] (by decide +kernel) rfl (keepF_dep [9] (by decide +kernel) rfl keepF_nil), ?_⟩
        refine G_done (by decide +kernel) ?_
        refine B_n ?_
        refine E_n ?_
        refine L_region ?_
        refine L_mv ?_
        refine L_u (P_ad h) ?_
        intro v w h
        refine L_as ?_
        refine L_nil ?_
        refine E_n ?_
        exact L3 _ _ h
      · refine C_exit ?_
        refine E_x ?_
        refine E_x ?_
        refine B_x ?_
        refine E_n ?_
        refine C_ret ?_
        show bodyPost Try.prog Try.f59 (Rt Q) .ret _ _
        exact post_tmps (ts := []) (.inr rfl) rfl h
  · refine C_skip ?_
    refine E_n ?_
    refine wp_seq ?_
    refine wp_seq ?_
    refine L_region ?_
    refine L_mv ?_
    refine L_mv ?_
    refine L_u (P_su h) ?_
    intro v w h
    refine L_u (P_eqi h) ?_
    intro v w h
    refine L_nil ?_
    refine E_n ?_
    refine C_cnd h (fun h => ?_) (fun h => ?_)
    · refine wp_seq ?_
      refine L_region ?_
      refine L_mv ?_
      refine L_as ?_
      refine L_nil ?_
      refine E_n ?_
      refine wp_seq ?_
      refine L_region ?_
      refine L_mv ?_
      refine L_as ?_
      refine L_nil ?_
      refine E_n ?_
      refine wp_seq ?_
      refine C_join (fun (k : Value → Value → Value → M) (ρ : Nat → Value) => k (ρ 0) (ρ 2) (ρ 14)) h (fun j4 J4 h => ?_) (fun ρ w h => ?_)
      · refine C_blk ?_
        refine C_lo (fun (l : Value → Value → Value → Value → Value → M) (ρ : Nat → Value) => l (ρ 0) (ρ 2) (ρ 4) (ρ 14) (ρ 15)) h (fun ρ w h => h) (fun nx self5 L5 ρ w h => ?_)
        unfold f59_b5 at h
        refine wp_seq ?_
        refine wp_seq ?_
        refine L_region ?_
        refine L_mv ?_
        refine L_mv ?_
        refine L_u (P_lt h) ?_
        intro v w h
        refine L_nil ?_
        refine E_n ?_
        refine C_cnd h (fun h => ?_) (fun h => ?_)
        · refine C_skip ?_
          refine E_n ?_
          refine C_blk ?_
          refine wp_seq ?_
          refine L_region ?_
          refine L_mv ?_
          refine L_mv ?_
          refine L_u (P_ad h) ?_
          intro v w h
          refine L_u (P_cv ai3 in92 h) ?_
          intro v w h
          refine L_u (P_shr h) ?_
          intro v w h
          refine L_u (P_cv ai92 in3 h) ?_
          intro v w h
          refine L_as ?_
          refine L_nil ?_
          refine E_n ?_
          refine wp_seq ?_
          refine D_region (by decide +kernel) 12 rfl ?_
          replace h := dr_e h
          refine G_p 0 rfl (by decide +kernel) (Y_mv h) ?_
          intro v h
          refine G_p 1 rfl (by decide +kernel) (Y_mv h) ?_
          intro v h
          refine G_p 2 rfl (by decide +kernel) (Y_mv h) ?_
          intro v h
          refine G_p 3 rfl (by decide +kernel) (Y_ia se22 h) ?_
          intro v h
          refine G_r _ 4 rfl (by decide +kernel) (R_ldn ag55 h) ?_
          intro v h
          refine G_p 5 rfl (by decide +kernel) (Y_mv h) ?_
          intro v h
          refine G_p 6 rfl (by decide +kernel) (Y_mv h) ?_
          intro v h
          refine G_p 7 rfl (by decide +kernel) (Y_ia se22 h) ?_
          intro v h
          refine G_r _ 8 rfl (by decide +kernel) (R_ldn ag55 h) ?_
          intro v h
          refine G_e 9 rfl (by decide +kernel) (N_cf h ?_)
          intro v w h
          refine ⟨keepF_dep [8] (by decide +kernel) rfl (keepF_dep [4] (by decide +kernel) rfl keepF_nil), ?_⟩
          refine G_p 10 rfl (by decide +kernel) (Y_lt h) ?_
          intro v h
          refine G_p 11 rfl (by decide +kernel) (Y_nt h) ?_
          intro v h
          refine G_done (by decide +kernel) ?_
          refine E_n ?_
          refine C_cnd h (fun h => ?_) (fun h => ?_)
          · refine L_region ?_
            refine L_mv ?_
            refine L_u (P_ad h) ?_
            intro v w h
            refine L_as ?_
            refine L_nil ?_
            refine B_n ?_
            refine E_n ?_
            exact L5 _ _ h
          · refine L_region ?_
            refine L_mv ?_
            refine L_as ?_
            refine L_nil ?_
            refine B_n ?_
            refine E_n ?_
            exact L5 _ _ h
        · refine C_exit ?_
          refine E_x ?_
          refine E_x ?_
          refine B_x ?_
          exact J4 _ _ h
      · unfold f59_j4 at h
        refine E_n ?_
        refine wp_seq ?_
        refine wp_seq ?_
        refine L_region ?_
        refine L_mv ?_
        refine L_as ?_
        refine L_nil ?_
        refine E_n ?_
        refine C_blk ?_
        refine C_lo (fun (l : Value → Value → Value → M) (ρ : Nat → Value) => l (ρ 0) (ρ 14) (ρ 17)) h (fun ρ w h => h) (fun nx self6 L6 ρ w h => ?_)
        unfold f59_b6 at h
        refine wp_seq ?_
        refine wp_seq ?_
        refine L_region ?_
        refine L_mv ?_
        refine L_mv ?_
        refine L_u (P_gt h) ?_
        intro v w h
        refine L_nil ?_
        refine E_n ?_
        refine C_cnd h (fun h => ?_) (fun h => ?_)
        · refine C_skip ?_
          refine E_n ?_
          refine wp_seq ?_
          refine C_blk ?_
          refine D_region (by decide +kernel) 18 rfl ?_
          replace h := dr_e h
          refine G_p 0 rfl (by decide +kernel) (Y_mv h) ?_
          intro v h
          refine G_p 1 rfl (by decide +kernel) (Y_mv h) ?_
          intro v h
          refine G_p 2 rfl (by decide +kernel) (Y_mv h) ?_
          intro v h
          refine G_p 3 rfl (by decide +kernel) (Y_mv h) ?_
          intro v h
          refine G_p 4 rfl (by decide +kernel) (Y_su h) ?_
          intro v h
          refine G_p 5 rfl (by decide +kernel) (Y_mv h) ?_
          intro v h
          refine G_p 6 rfl (by decide +kernel) (Y_mv h) ?_
          intro v h
          refine G_p 7 rfl (by decide +kernel) (Y_su h) ?_
          intro v h
          refine G_p 8 rfl (by decide +kernel) (Y_ia se22 h) ?_
          intro v h
          refine G_r _ 9 rfl (by decide +kernel) (R_ldn ag55 h) ?_
          intro v h
          refine G_p 10 rfl (by decide +kernel) (Y_mv h) ?_
          intro v h
          refine G_p 11 rfl (by decide +kernel) (Y_mv h) ?_
          intro v h
          refine G_p 12 rfl (by decide +kernel) (Y_ia se22 h) ?_
          intro v h
          refine G_r _ 13 rfl (by decide +kernel) (R_ldn ag55 h) ?_
          intro v h
          refine G_p 14 rfl (by decide +kernel) (Y_ia se22 h) ?_
          intro v h
          refine G_e 15 rfl (by decide +kernel) (P_stn ag55 h ?_)
          intro w h
          refine ⟨keepF_dep [13] (by decide +kernel) rfl (keepF_dep [9] (by decide +kernel) rfl keepF_nil), ?_⟩
          refine G_p 16 rfl (by decide +kernel) (Y_ia se22 h) ?_
          intro v h
          refine G_e 17 rfl (by decide +kernel) (P_stn ag55 h ?_)
          intro w h
          refine ⟨keepF_dep [13] (by decide +kernel) rfl (keepF_dep [9] (by decide +kernel) rfl keepF_nil), ?_⟩
          refine G_done (by decide +kernel) ?_
          refine B_n ?_
          refine E_n ?_
          refine L_region ?_
          refine L_mv ?_
          refine L_u (P_su h) ?_
          intro v w h
          refine L_as ?_
          refine L_nil ?_
          refine E_n ?_
          exact L6 _ _ h
        · refine C_exit ?_
          refine E_x ?_
          refine E_x ?_
          refine B_x ?_
          refine E_n ?_
          refine C_ret ?_
          show bodyPost Try.prog Try.f59 (Rt Q) .ret _ _
          exact post_tmps (ts := []) (.inr rfl) rfl h
    · refine C_skip ?_
      refine E_n ?_
      refine wp_seq ?_
      refine L_region ?_
      refine L_mv ?_
      refine L_mv ?_
      refine L_u (P_ad h) ?_
      intro v w h
      refine L_u (P_cv ai3 in92 h) ?_
      intro v w h
      refine L_u (P_shr h) ?_
      intro v w h
      refine L_u (P_cv ai92 in3 h) ?_
      intro v w h
      refine L_as ?_
      refine L_nil ?_
      refine E_n ?_
      refine wp_seq ?_
      refine L_region ?_
      refine L_mv ?_
      refine L_mv ?_
      refine L_u (P_ad h) ?_
      intro v w h
      refine L_as ?_
      refine L_nil ?_
      refine E_n ?_
      refine wp_seq ?_
      refine L_region ?_
      refine L_as ?_
      refine L_as ?_
      refine L_nil ?_
      refine E_n ?_
      refine wp_seq ?_
      refine wp_seq ?_
      refine L_region ?_
      refine L_mv ?_
      refine L_mv ?_
      refine L_u (P_gt h) ?_
      intro v w h
      refine L_nil ?_
      refine E_n ?_
      refine C_join (fun (k : Value → Value → Value → Value → Value → Value → Value → Value → Value → M) (ρ : Nat → Value) => k (ρ 0) (ρ 1) (ρ 2) (ρ 3) (ρ 4) (ρ 18) (ρ 19) (ρ 20) (ρ 21)) h (fun j7 J7 h => ?_) (fun ρ w h => ?_)
      · refine C_cnd h (fun h => ?_) (fun h => ?_)
        · refine wp_seq ?_
          refine L_region ?_
          refine L_mv ?_
          refine L_mv ?_
          refine L_u (P_su h) ?_
          intro v w h
          refine L_as ?_
          refine L_nil ?_
          refine E_n ?_
          refine L_region ?_
          refine L_mv ?_
          refine L_as ?_
          refine L_nil ?_
          exact J7 _ _ h
        · refine wp_seq ?_
          refine L_region ?_
          refine L_mv ?_
          refine L_as ?_
          refine L_nil ?_
          refine E_n ?_
          refine L_region ?_
          refine L_mv ?_
          refine L_as ?_
          refine L_nil ?_
          exact J7 _ _ h
      · unfold f59_j7 at h
        refine E_n ?_
        refine wp_seq ?_
        refine L_region ?_
        refine L_mv ?_
        refine L_u (P_su h) ?_
        intro v w h
        refine L_as ?_
        refine L_nil ?_
        refine E_n ?_
        refine wp_seq ?_
        refine C_join (fun (k : Value → Value → Value → Value → Value → Value → Value → Value → M) (ρ : Nat → Value) => k (ρ 0) (ρ 1) (ρ 2) (ρ 3) (ρ 4) (ρ 18) (ρ 19) (ρ 20)) h (fun j8 J8 h => ?_) (fun ρ w h => ?_)
        · refine C_blk ?_
          refine C_lo (fun (l : Value → Value → Value → Value → Value → Value → Value → Value → Value → Value → M) (ρ : Nat → Value) => l (ρ 0) (ρ 1) (ρ 2) (ρ 3) (ρ 4) (ρ 18) (ρ 19) (ρ 20) (ρ 21) (ρ 22)) h (fun ρ w h => h) (fun nx self9 L9 ρ w h => ?_)
          unfold f59_b9 at h
          refine wp_seq ?_
          refine wp_seq ?_
          refine L_region ?_
          refine L_mv ?_
          refine L_mv ?_
          refine L_u (P_lt h) ?_
          intro v w h
          refine L_nil ?_
          refine E_n ?_
          refine C_cnd h (fun h => ?_) (fun h => ?_)
          · refine C_skip ?_
            refine E_n ?_
            refine C_blk ?_
            refine wp_seq ?_
            refine L_region ?_
            refine L_mv ?_
            refine L_mv ?_
            refine L_u (P_ad h) ?_
            intro v w h
            refine L_u (P_cv ai3 in92 h) ?_
            intro v w h
            refine L_u (P_shr h) ?_
            intro v w h
            refine L_u (P_cv ai92 in3 h) ?_
            intro v w h
            refine L_as ?_
            refine L_nil ?_
            refine E_n ?_
            refine wp_seq ?_
            refine D_region (by decide +kernel) 14 rfl ?_
            replace h := dr_e h
            refine G_p 0 rfl (by decide +kernel) (Y_mv h) ?_
            intro v h
            refine G_p 1 rfl (by decide +kernel) (Y_mv h) ?_
            intro v h
            refine G_p 2 rfl (by decide +kernel) (Y_mv h) ?_
            intro v h
            refine G_p 3 rfl (by decide +kernel) (Y_mv h) ?_
            intro v h
            refine G_p 4 rfl (by decide +kernel) (Y_su h) ?_
            intro v h
            refine G_p 5 rfl (by decide +kernel) (Y_ia se22 h) ?_
            intro v h
            refine G_r _ 6 rfl (by decide +kernel) (R_ldn ag55 h) ?_
            intro v h
            refine G_p 7 rfl (by decide +kernel) (Y_mv h) ?_
            intro v h
            refine G_p 8 rfl (by decide +kernel) (Y_mv h) ?_
            intro v h
            refine G_p 9 rfl (by decide +kernel) (Y_ia se22 h) ?_
            intro v h
            refine G_r _ 10 rfl (by decide +kernel) (R_ldn ag55 h) ?_
            intro v h
            refine G_e 11 rfl (by decide +kernel) (N_cf h ?_)
            intro v w h
            refine ⟨keepF_dep [10] (by decide +kernel) rfl (keepF_dep [6] (by decide +kernel) rfl keepF_nil), ?_⟩
            refine G_p 12 rfl (by decide +kernel) (Y_lt h) ?_
            intro v h
            refine G_p 13 rfl (by decide +kernel) (Y_nt h) ?_
            intro v h
            refine G_done (by decide +kernel) ?_
            refine E_n ?_
            refine C_cnd h (fun h => ?_) (fun h => ?_)
            · refine L_region ?_
              refine L_mv ?_
              refine L_u (P_ad h) ?_
              intro v w h
              refine L_as ?_
              refine L_nil ?_
              refine B_n ?_
              refine E_n ?_
              exact L9 _ _ h
            · refine L_region ?_
              refine L_mv ?_
              refine L_as ?_
              refine L_nil ?_
              refine B_n ?_
              refine E_n ?_
              exact L9 _ _ h
          · refine C_exit ?_
            refine E_x ?_
            refine E_x ?_
            refine B_x ?_
            exact J8 _ _ h
        · unfold f59_j8 at h
          refine E_n ?_
          refine wp_seq ?_
          refine L_region ?_
          refine L_mv ?_
          refine L_mv ?_
          refine L_u (P_su h) ?_
          intro v w h
          refine L_as ?_
          refine L_nil ?_
          refine E_n ?_
          refine wp_seq ?_
          refine wp_seq ?_
          refine L_region ?_
          refine L_mv ?_
          refine L_mv ?_
          refine L_u (P_lt h) ?_
          intro v w h
          refine L_mv ?_
          refine L_g (t := 181) h rfl rfl (fun c h => P_mv h c) ?_
          intro v w h
          refine L_g (t := 181) h rfl rfl (fun c h => P_mv h c) ?_
          intro v w h
          refine L_g (t := 181) h rfl rfl (fun c h => P_lt h c) ?_
          intro v w h
          refine L_u (P_pk h) ?_
          intro v w h
          refine L_nil ?_
          refine E_n ?_
          refine C_join (fun (k : Value → Value → Value → Value → Value → Value → Value → M) (ρ : Nat → Value) => k (ρ 0) (ρ 1) (ρ 3) (ρ 4) (ρ 18) (ρ 20) (ρ 24)) h (fun j10 J10 h => ?_) (fun ρ w h => ?_)
          · refine C_cnd h (fun h => ?_) (fun h => ?_)
            · refine L_region ?_
              refine L_mv ?_
              refine L_mv ?_
              refine L_mv ?_
              refine L_mv ?_
              refine L_mv ?_
              refine L_u (N_cl Try.func73 rfl nn73 (fun w Q h => s73 _ _ _ _ _ w Q h) h) ?_
              intro v w h
              refine L_nil ?_
              exact J10 _ _ h
            · refine C_skip ?_
              exact J10 _ _ h
          · unfold f59_j10 at h
            refine E_n ?_
            refine wp_seq ?_
            refine wp_seq ?_
            refine L_region ?_
            refine L_mv ?_
            refine L_mv ?_
            refine L_u (P_lt h) ?_
            intro v w h
            refine L_mv ?_
            refine L_g (t := 195) h rfl rfl (fun c h => P_mv h c) ?_
            intro v w h
            refine L_g (t := 195) h rfl rfl (fun c h => P_mv h c) ?_
            intro v w h
            refine L_g (t := 195) h rfl rfl (fun c h => P_lt h c) ?_
            intro v w h
            refine L_u (P_pk h) ?_
            intro v w h
            refine L_nil ?_
            refine E_n ?_
            refine C_join (fun (k : Value → Value → Value → Value → Value → M) (ρ : Nat → Value) => k (ρ 0) (ρ 3) (ρ 4) (ρ 18) (ρ 24)) h (fun j11 J11 h => ?_) (fun ρ w h => ?_)
            · refine C_cnd h (fun h => ?_) (fun h => ?_)
              · refine L_region ?_
                refine L_mv ?_
                refine L_mv ?_
                refine L_mv ?_
                refine L_mv ?_
                refine L_mv ?_
                refine L_u (N_cc Try.func59 rfl nn59 h) ?_
                intro v w h
                refine L_nil ?_
                exact J11 _ _ h
              · refine C_skip ?_
                exact J11 _ _ h
            · unfold f59_j11 at h
              refine E_n ?_
              refine wp_seq ?_
              refine L_region ?_
              refine L_mv ?_
              refine L_mv ?_
              refine L_u (P_lt h) ?_
              intro v w h
              refine L_mv ?_
              refine L_g (t := 209) h rfl rfl (fun c h => P_mv h c) ?_
              intro v w h
              refine L_g (t := 209) h rfl rfl (fun c h => P_mv h c) ?_
              intro v w h
              refine L_g (t := 209) h rfl rfl (fun c h => P_lt h c) ?_
              intro v w h
              refine L_u (P_pk h) ?_
              intro v w h
              refine L_nil ?_
              refine E_n ?_
              refine C_cnd h (fun h => ?_) (fun h => ?_)
              · refine L_region ?_
                refine L_mv ?_
                refine L_mv ?_
                refine L_mv ?_
                refine L_mv ?_
                refine L_mv ?_
                refine L_u (N_cc Try.func59 rfl nn59 h) ?_
                intro v w h
                refine L_nil ?_
                show bodyPost Try.prog Try.f59 (Rt Q) .normal _ _
                exact post_tmps (ts := []) (.inl rfl) rfl h
              · refine C_skip ?_
                show bodyPost Try.prog Try.f59 (Rt Q) .normal _ _
                exact post_tmps (ts := []) (.inl rfl) rfl h

def f50_b2 (j1 : Value → Value → Value → Value → Value → M) (self2 : Value → Value → Value → Value → Value → Value → M) (t0_1 t1_1 t2_1 t6 t7 t8 : Value) : M := le .i64 t8 t1_1 fun t13 => cnd t13 ( cl (f58 t0_1 t7 t8 t2_1) fun t18 => ad .i64 t8 t6 fun t22 => self2 t0_1 t1_1 t2_1 t6 t8 t22 ) ( j1 t0_1 t1_1 t2_1 t6 t7 )
def f50_b5 (j4 : Value → Value → Value → Value → Value → M) (self5 : Value → Value → Value → Value → Value → Value → M) (t0_4 t1_4 t2_4 t6_3 t7_2 t8_1 : Value) : M := le .i64 t8_1 t1_4 fun t35 => cnd t35 ( ad .i64 t7_2 t6_3 fun t40 => cl (f59 t0_4 t7_2 t40 t8_1 t2_4) fun t43 => mu .i64 (.int .i64 2) t6_3 fun t47 => ad .i64 t8_1 t47 fun t48 => self5 t0_4 t1_4 t2_4 t6_3 t8_1 t48 ) ( j4 t0_4 t1_4 t2_4 t6_3 t7_2 )
def f50_j6 (self3 : Value → Value → Value → Value → M) (t0_6 t1_6 t2_6 t6_5 : Value) : M := mu .i64 t6_5 (.int .i64 2) fun t62 => self3 t0_6 t1_6 t2_6 t62
def f50_j4 (self3 : Value → Value → Value → Value → M) (t0_5 t1_5 t2_5 t6_4 t7_3 : Value) : M := ad .i64 t7_3 t6_4 fun t51 => lt .i64 t51 t1_5 fun t54 => jn (fun (j6 : Value → Value → Value → Value → M) => cnd t54 ( cl (f59 t0_5 t7_3 t51 t1_5 t2_5) fun t60 => j6 t0_5 t1_5 t2_5 t6_4 ) ( j6 t0_5 t1_5 t2_5 t6_4 ) ) (f50_j6 self3)
def f50_b3 (self3 : Value → Value → Value → Value → M) (t0_3 t1_3 t2_3 t6_2 : Value) : M := lt .i64 t6_2 t1_3 fun t30 => cnd t30 ( mu .i64 (.int .i64 2) t6_2 fun t32 => jn (fun (j4 : Value → Value → Value → Value → Value → M) => lo (fun _ _ _ _ _ _ => bot) (f50_b5 j4) (fun l => l t0_3 t1_3 t2_3 t6_2 (.int .i64 0) t32) ) (f50_j4 self3) ) ( rt (.tuple #[]) )
def f50_j1 (t0_2 t1_2 t2_2 t6_1 t7_1 : Value) : M := cl (f58 t0_2 t7_1 t1_2 t2_2) fun t27 => lo (fun _ _ _ _ => bot) (f50_b3) (fun l => l t0_2 t1_2 t2_2 t6_1)
def f50 (t0 t1 t2 : Value) : M := jn (fun (j1 : Value → Value → Value → Value → Value → M) => lo (fun _ _ _ _ _ _ => bot) (f50_b2 j1) (fun l => l t0 t1 t2 (.int .i64 20) (.int .i64 0) (.int .i64 20)) ) (f50_j1)
theorem s50 (t0 t1 t2 : Value) (w : World) (Q : Value → World → Prop) (h : f50 t0 t1 t2 w Q) : Calls Try.prog 50 #[t0, t1, t2] w (Rt Q) := by
  refine calls_of (l := [t0, t1, t2]) Try.func50 rfl Try.ntmps50 (Nat.le_of_ble_eq_true rfl) ?_
  unfold f50 at h
  refine wp_seq ?_
  refine L_region ?_
  refine L_as ?_
  refine L_nil ?_
  refine E_n ?_
  refine wp_seq ?_
  refine L_region ?_
  refine L_mv ?_
  refine L_as ?_
  refine L_as ?_
  refine L_nil ?_
  refine E_n ?_
  refine wp_seq ?_
  refine C_join (fun (k : Value → Value → Value → Value → Value → M) (ρ : Nat → Value) => k (ρ 0) (ρ 1) (ρ 2) (ρ 6) (ρ 7)) h (fun j1 J1 h => ?_) (fun ρ w h => ?_)
  · refine C_blk ?_
    refine C_lo (fun (l : Value → Value → Value → Value → Value → Value → M) (ρ : Nat → Value) => l (ρ 0) (ρ 1) (ρ 2) (ρ 6) (ρ 7) (ρ 8)) h (fun ρ w h => h) (fun nx self2 L2 ρ w h => ?_)
    unfold f50_b2 at h
    refine wp_seq ?_
    refine wp_seq ?_
    refine L_region ?_
    refine L_mv ?_
    refine L_mv ?_
    refine L_u (P_le h) ?_
    intro v w h
    refine L_nil ?_
    refine E_n ?_
    refine C_cnd h (fun h => ?_) (fun h => ?_)
    · refine C_skip ?_
      refine E_n ?_
      refine C_blk ?_
      refine wp_seq ?_
      refine L_region ?_
      refine L_mv ?_
      refine L_mv ?_
      refine L_mv ?_
      refine L_mv ?_
      refine L_u (N_cl Try.func58 rfl nn58 (fun w Q h => s58 _ _ _ _ w Q h) h) ?_
      intro v w h
      refine L_nil ?_
      refine E_n ?_
      refine wp_seq ?_
      refine L_region ?_
      refine L_mv ?_
      refine L_as ?_
      refine L_nil ?_
      refine E_n ?_
      refine L_region ?_
      refine L_mv ?_
      refine L_mv ?_
      refine L_u (P_ad h) ?_
      intro v w h
      refine L_as ?_
      refine L_nil ?_
      refine B_n ?_
      refine E_n ?_
      exact L2 _ _ h
    · refine C_exit ?_
      refine E_x ?_
      refine E_x ?_
      refine B_x ?_
      exact J1 _ _ h
  · unfold f50_j1 at h
    refine E_n ?_
    refine wp_seq ?_
    refine L_region ?_
    refine L_mv ?_
    refine L_mv ?_
    refine L_mv ?_
    refine L_mv ?_
    refine L_u (N_cl Try.func58 rfl nn58 (fun w Q h => s58 _ _ _ _ w Q h) h) ?_
    intro v w h
    refine L_nil ?_
    refine E_n ?_
    refine C_blk ?_
    refine C_lo (fun (l : Value → Value → Value → Value → M) (ρ : Nat → Value) => l (ρ 0) (ρ 1) (ρ 2) (ρ 6)) h (fun ρ w h => h) (fun nx self3 L3 ρ w h => ?_)
    unfold f50_b3 at h
    refine wp_seq ?_
    refine wp_seq ?_
    refine L_region ?_
    refine L_mv ?_
    refine L_mv ?_
    refine L_u (P_lt h) ?_
    intro v w h
    refine L_nil ?_
    refine E_n ?_
    refine C_cnd h (fun h => ?_) (fun h => ?_)
    · refine C_skip ?_
      refine E_n ?_
      refine C_blk ?_
      refine wp_seq ?_
      refine L_region ?_
      refine L_mv ?_
      refine L_u (P_mu h) ?_
      intro v w h
      refine L_as ?_
      refine L_as ?_
      refine L_nil ?_
      refine E_n ?_
      refine wp_seq ?_
      refine C_join (fun (k : Value → Value → Value → Value → Value → M) (ρ : Nat → Value) => k (ρ 0) (ρ 1) (ρ 2) (ρ 6) (ρ 7)) h (fun j4 J4 h => ?_) (fun ρ w h => ?_)
      · refine C_blk ?_
        refine C_lo (fun (l : Value → Value → Value → Value → Value → Value → M) (ρ : Nat → Value) => l (ρ 0) (ρ 1) (ρ 2) (ρ 6) (ρ 7) (ρ 8)) h (fun ρ w h => h) (fun nx self5 L5 ρ w h => ?_)
        unfold f50_b5 at h
        refine wp_seq ?_
        refine wp_seq ?_
        refine L_region ?_
        refine L_mv ?_
        refine L_mv ?_
        refine L_u (P_le h) ?_
        intro v w h
        refine L_nil ?_
        refine E_n ?_
        refine C_cnd h (fun h => ?_) (fun h => ?_)
        · refine C_skip ?_
          refine E_n ?_
          refine C_blk ?_
          refine wp_seq ?_
          refine L_region ?_
          refine L_mv ?_
          refine L_mv ?_
          refine L_mv ?_
          refine L_mv ?_
          refine L_u (P_ad h) ?_
          intro v w h
          refine L_mv ?_
          refine L_mv ?_
          refine L_u (N_cl Try.func59 rfl nn59 (fun w Q h => s59 _ _ _ _ _ w Q h) h) ?_
          intro v w h
          refine L_nil ?_
          refine E_n ?_
          refine wp_seq ?_
          refine L_region ?_
          refine L_mv ?_
          refine L_as ?_
          refine L_nil ?_
          refine E_n ?_
          refine L_region ?_
          refine L_mv ?_
          refine L_mv ?_
          refine L_u (P_mu h) ?_
          intro v w h
          refine L_u (P_ad h) ?_
          intro v w h
          refine L_as ?_
          refine L_nil ?_
          refine B_n ?_
          refine E_n ?_
          exact L5 _ _ h
        · refine C_exit ?_
          refine E_x ?_
          refine E_x ?_
          refine B_x ?_
          exact J4 _ _ h
      · unfold f50_j4 at h
        refine E_n ?_
        refine wp_seq ?_
        refine wp_seq ?_
        refine L_region ?_
        refine L_mv ?_
        refine L_mv ?_
        refine L_u (P_ad h) ?_
        intro v w h
        refine L_as ?_
        refine L_nil ?_
        refine E_n ?_
        refine wp_seq ?_
        refine L_region ?_
        refine L_mv ?_
        refine L_mv ?_
        refine L_u (P_lt h) ?_
        intro v w h
        refine L_nil ?_
        refine E_n ?_
        refine C_join (fun (k : Value → Value → Value → Value → M) (ρ : Nat → Value) => k (ρ 0) (ρ 1) (ρ 2) (ρ 6)) h (fun j6 J6 h => ?_) (fun ρ w h => ?_)
        · refine C_cnd h (fun h => ?_) (fun h => ?_)
          · refine L_region ?_
            refine L_mv ?_
            refine L_mv ?_
            refine L_mv ?_
            refine L_mv ?_
            refine L_mv ?_
            refine L_u (N_cl Try.func59 rfl nn59 (fun w Q h => s59 _ _ _ _ _ w Q h) h) ?_
            intro v w h
            refine L_nil ?_
            exact J6 _ _ h
          · refine C_skip ?_
            exact J6 _ _ h
        · unfold f50_j6 at h
          refine E_n ?_
          refine L_region ?_
          refine L_mv ?_
          refine L_u (P_mu h) ?_
          intro v w h
          refine L_as ?_
          refine L_nil ?_
          refine B_n ?_
          refine E_n ?_
          exact L3 _ _ h
    · refine C_exit ?_
      refine E_x ?_
      refine E_x ?_
      refine B_x ?_
      show bodyPost Try.prog Try.f50 (Rt Q) .normal _ _
      exact post_tmps (ts := []) (.inl rfl) rfl h

def f35 (t0 t1 : Value) : M := lnl t0 fun t6 => cl (f50 t0 t6 t1) fun t8 => rt (.tuple #[])
theorem s35 (t0 t1 : Value) (w : World) (Q : Value → World → Prop) (h : f35 t0 t1 w Q) : Calls Try.prog 35 #[t0, t1] w (Rt Q) := by
  refine calls_of (l := [t0, t1]) Try.func35 rfl Try.ntmps35 (Nat.le_of_ble_eq_true rfl) ?_
  unfold f35 at h
  refine L_region ?_
  refine L_mv ?_
  refine L_mv ?_
  refine L_u (P_lnl is22 h) ?_
  intro v w h
  refine L_mv ?_
  refine L_u (N_cl Try.func50 rfl nn50 (fun w Q h => s50 _ _ _ w Q h) h) ?_
  intro v w h
  refine L_nil ?_
  show bodyPost Try.prog Try.f35 (Rt Q) .normal _ _
  exact post_tmps (ts := []) (.inl rfl) rfl h

def f37_b2 (j1 : Value → M) (self2 : Value → Value → Value → Value → M) (t3 t6 t7_1 t8 : Value) : M := lt .i64 t8 t7_1 fun t9 => cnd t9 ( ia 1 t6 t8 fun t10 => ld t10 fun t11 => nei .i64 t11 t3 fun t14 => cnd t14 ( rt t11 ) ( ad .i64 t8 (.int .i64 1) fun t16 => self2 t3 t6 t7_1 t16 ) ) ( j1 t3 )
def f37_j1 (t3_1 : Value) : M := rt t3_1
def f37 (t0 : Value) : M := lnl t0 fun t7 => jn (fun (j1 : Value → M) => lo (fun _ _ _ _ => bot) (f37_b2 j1) (fun l => l (.int .i64 0) t0 t7 (.int .i64 0)) ) (f37_j1)
theorem s37 (t0 : Value) (w : World) (Q : Value → World → Prop) (h : f37 t0 w Q) : Calls Try.prog 37 #[t0] w (Rt Q) := by
  refine calls_of (l := [t0]) Try.func37 rfl Try.ntmps37 (Nat.le_of_ble_eq_true rfl) ?_
  unfold f37 at h
  refine wp_seq ?_
  refine L_region ?_
  refine L_as ?_
  refine L_nil ?_
  refine E_n ?_
  refine wp_seq ?_
  refine L_region ?_
  refine L_as ?_
  refine L_nil ?_
  refine E_n ?_
  refine wp_seq ?_
  refine wp_seq ?_
  refine L_region ?_
  refine L_mv ?_
  refine L_u (P_lnl is34 h) ?_
  intro v w h
  refine L_mv ?_
  refine L_nil ?_
  refine E_n ?_
  refine C_join (fun (k : Value → M) (ρ : Nat → Value) => k (ρ 3)) h (fun j1 J1 h => ?_) (fun ρ w h => ?_)
  · refine C_blk ?_
    refine C_lo (fun (l : Value → Value → Value → Value → M) (ρ : Nat → Value) => l (ρ 3) (ρ 6) (ρ 7) (ρ 8)) h (fun ρ w h => h) (fun nx self2 L2 ρ w h => ?_)
    unfold f37_b2 at h
    refine wp_seq ?_
    refine L_region ?_
    refine L_u (P_lt h) ?_
    intro v w h
    refine L_nil ?_
    refine E_n ?_
    refine wp_seq ?_
    refine C_cnd h (fun h => ?_) (fun h => ?_)
    · refine C_skip ?_
      refine E_n ?_
      refine wp_seq ?_
      refine C_blk ?_
      refine wp_seq ?_
      refine L_region ?_
      refine L_u (P_ia se34 h) ?_
      intro v w h
      refine L_u (P_ld sc3 h) ?_
      intro v w h
      refine L_as ?_
      refine L_nil ?_
      refine E_n ?_
      refine wp_seq ?_
      refine L_region ?_
      refine L_mv ?_
      refine L_mv ?_
      refine L_u (P_nei h) ?_
      intro v w h
      refine L_nil ?_
      refine E_n ?_
      refine C_cnd h (fun h => ?_) (fun h => ?_)
      · refine wp_seq ?_
        refine L_region ?_
        refine L_mv ?_
        refine L_as ?_
        refine L_nil ?_
        refine E_n ?_
        refine C_ret ?_
        show bodyPost Try.prog Try.f37 (Rt Q) .ret _ _
        exact post_tmps (ts := [2]) (.inr rfl) rfl h
      · refine C_skip ?_
        refine B_n ?_
        refine E_n ?_
        refine L_region ?_
        refine L_u (P_ad h) ?_
        intro v w h
        refine L_mv ?_
        refine L_nil ?_
        refine E_n ?_
        exact L2 _ _ h
    · refine C_exit ?_
      refine E_x ?_
      refine E_x ?_
      refine B_x ?_
      exact J1 _ _ h
  · unfold f37_j1 at h
    refine E_n ?_
    refine wp_seq ?_
    refine L_region ?_
    refine L_mv ?_
    refine L_as ?_
    refine L_nil ?_
    refine E_n ?_
    refine C_ret ?_
    show bodyPost Try.prog Try.f37 (Rt Q) .ret _ _
    exact post_tmps (ts := [2]) (.inr rfl) rfl h

def f38 (t0 t1 : Value) : M := cl (f51 t0) fun t8 => cl (f51 t1) fun t10 => cnd t8 ( cnd t10 ( rt (.int .i64 0) ) ( rt (.int .i64 (-1)) ) ) ( cnd t10 ( rt (.int .i64 1) ) ( lt .i64 t0 t1 fun t16 => cnd t16 ( rt (.int .i64 (-1)) ) ( gt .i64 t0 t1 fun t19 => cnd t19 ( rt (.int .i64 1) ) ( rt (.int .i64 0) ) ) ) )
theorem s38 (t0 t1 : Value) (w : World) (Q : Value → World → Prop) (h : f38 t0 t1 w Q) : Calls Try.prog 38 #[t0, t1] w (Rt Q) := by
  refine calls_of (l := [t0, t1]) Try.func38 rfl Try.ntmps38 (Nat.le_of_ble_eq_true rfl) ?_
  unfold f38 at h
  refine wp_seq ?_
  refine L_region ?_
  refine L_as ?_
  refine L_nil ?_
  refine E_n ?_
  refine wp_seq ?_
  refine L_region ?_
  refine L_mv ?_
  refine L_u (N_cl Try.func51 rfl nn51 (fun w Q h => s51 _ w Q h) h) ?_
  intro v w h
  refine L_as ?_
  refine L_nil ?_
  refine E_n ?_
  refine wp_seq ?_
  refine L_region ?_
  refine L_mv ?_
  refine L_u (N_cl Try.func51 rfl nn51 (fun w Q h => s51 _ w Q h) h) ?_
  intro v w h
  refine L_as ?_
  refine L_nil ?_
  refine E_n ?_
  refine wp_seq ?_
  refine wp_seq ?_
  refine L_region ?_
  refine L_mv ?_
  refine L_nil ?_
  refine E_n ?_
  refine C_cnd h (fun h => ?_) (fun h => ?_)
  · refine wp_seq ?_
    refine wp_seq ?_
    refine L_region ?_
    refine L_mv ?_
    refine L_nil ?_
    refine E_n ?_
    refine C_cnd h (fun h => ?_) (fun h => ?_)
    · refine wp_seq ?_
      refine L_region ?_
      refine L_as ?_
      refine L_nil ?_
      refine E_n ?_
      refine C_ret ?_
      show bodyPost Try.prog Try.f38 (Rt Q) .ret _ _
      exact post_tmps (ts := [4]) (.inr rfl) rfl h
    · refine C_skip ?_
      refine E_n ?_
      refine wp_seq ?_
      refine L_region ?_
      refine L_as ?_
      refine L_nil ?_
      refine E_n ?_
      refine C_ret ?_
      show bodyPost Try.prog Try.f38 (Rt Q) .ret _ _
      exact post_tmps (ts := [4]) (.inr rfl) rfl h
  · refine C_skip ?_
    refine E_n ?_
    refine wp_seq ?_
    refine wp_seq ?_
    refine L_region ?_
    refine L_mv ?_
    refine L_nil ?_
    refine E_n ?_
    refine C_cnd h (fun h => ?_) (fun h => ?_)
    · refine wp_seq ?_
      refine L_region ?_
      refine L_as ?_
      refine L_nil ?_
      refine E_n ?_
      refine C_ret ?_
      show bodyPost Try.prog Try.f38 (Rt Q) .ret _ _
      exact post_tmps (ts := [4]) (.inr rfl) rfl h
    · refine C_skip ?_
      refine E_n ?_
      refine wp_seq ?_
      refine wp_seq ?_
      refine L_region ?_
      refine L_mv ?_
      refine L_mv ?_
      refine L_u (P_lt h) ?_
      intro v w h
      refine L_nil ?_
      refine E_n ?_
      refine C_cnd h (fun h => ?_) (fun h => ?_)
      · refine wp_seq ?_
        refine L_region ?_
        refine L_as ?_
        refine L_nil ?_
        refine E_n ?_
        refine C_ret ?_
        show bodyPost Try.prog Try.f38 (Rt Q) .ret _ _
        exact post_tmps (ts := [4]) (.inr rfl) rfl h
      · refine C_skip ?_
        refine E_n ?_
        refine wp_seq ?_
        refine wp_seq ?_
        refine L_region ?_
        refine L_mv ?_
        refine L_mv ?_
        refine L_u (P_gt h) ?_
        intro v w h
        refine L_nil ?_
        refine E_n ?_
        refine C_cnd h (fun h => ?_) (fun h => ?_)
        · refine wp_seq ?_
          refine L_region ?_
          refine L_as ?_
          refine L_nil ?_
          refine E_n ?_
          refine C_ret ?_
          show bodyPost Try.prog Try.f38 (Rt Q) .ret _ _
          exact post_tmps (ts := [4]) (.inr rfl) rfl h
        · refine C_skip ?_
          refine E_n ?_
          refine wp_seq ?_
          refine L_region ?_
          refine L_as ?_
          refine L_nil ?_
          refine E_n ?_
          refine C_ret ?_
          show bodyPost Try.prog Try.f38 (Rt Q) .ret _ _
          exact post_tmps (ts := [4]) (.inr rfl) rfl h

def f36 (t0 t1 : Value) : M := bx 55 t0 fun t2 => bx 55 t1 fun t3 => dr <| fa 6 t3 fun t5 => ld t5 fun t6 => fa 6 t2 fun t7 => ld t7 fun t8 => fa 0 t2 fun t10 => ld t10 fun t11 => fa 0 t3 fun t12 => ld t12 fun t13 => cl (f38 t6 t8) fun t9 => kp (Kld t12 t13) <| kp (Kld t10 t11) <| cl (f38 t11 t13) fun t14 => sm Try.prog (Instr.buildSlice 34 2 #[(0, t9), (1, t14)]) fun t15 => cl (f37 t15) fun t16 => idv t16 fun t4 => rt t4
theorem s36 (t0 t1 : Value) (w : World) (Q : Value → World → Prop) (h : f36 t0 t1 w Q) : Calls Try.prog 36 #[t0, t1] w (Rt Q) := by
  refine calls_of (l := [t0, t1]) Try.func36 rfl Try.ntmps36 (Nat.le_of_ble_eq_true rfl) ?_
  unfold f36 at h
  refine wp_seq ?_
  refine L_region ?_
  refine L_u (P_bx h) ?_
  intro v w h
  refine L_u (P_bx h) ?_
  intro v w h
  refine L_as ?_
  refine L_nil ?_
  refine E_n ?_
  refine wp_seq ?_
  refine D_region (by decide +kernel) 13 rfl ?_
  replace h := dr_e h
  refine G_p 0 rfl (by decide +kernel) (Y_fa fo55_4 h) ?_
  intro v h
  refine G_r _ 1 rfl (by decide +kernel) (R_ld sc3 h) ?_
  intro v h
  refine G_p 2 rfl (by decide +kernel) (Y_fa fo55_4 h) ?_
  intro v h
  refine G_r _ 3 rfl (by decide +kernel) (R_ld sc3 h) ?_
  intro v h
  refine G_p 5 rfl (by decide +kernel) (Y_fa fo55_0 h) ?_
  intro v h
  refine G_r _ 6 rfl (by decide +kernel) (R_ld sc3 h) ?_
  intro v h
  refine G_p 7 rfl (by decide +kernel) (Y_fa fo55_0 h) ?_
  intro v h
  refine G_r _ 8 rfl (by decide +kernel) (R_ld sc3 h) ?_
  intro v h
  refine G_e 4 rfl (by decide +kernel) (N_cl Try.func38 rfl nn38 (fun w Q h => s38 _ _ w Q h) h ?_)
  intro v w h
  refine ⟨keepF_cons (kp_1 h) (keepF_cons (kp_1 (kp_2 h)) (keepF_dep [3] (by decide +kernel) rfl (keepF_dep [1] (by decide +kernel) rfl keepF_nil))), ?_⟩
  replace h := (kp_2 (kp_2 h))
  refine G_e 9 rfl (by decide +kernel) (N_cl Try.func38 rfl nn38 (fun w Q h => s38 _ _ w Q h) h ?_)
  intro v w h
  refine ⟨keepF_dep [8] (by decide +kernel) rfl (keepF_dep [6] (by decide +kernel) rfl (keepF_dep [4, 3] (by decide +kernel) rfl (keepF_dep [4, 1] (by decide +kernel) rfl keepF_nil))), ?_⟩
  refine G_e 10 rfl (by decide +kernel) (N_bsl h ?_)
  intro v w h
  refine ⟨keepF_dep [9, 8] (by decide +kernel) rfl (keepF_dep [9, 6] (by decide +kernel) rfl (keepF_dep [4, 3] (by decide +kernel) rfl (keepF_dep [4, 1] (by decide +kernel) rfl keepF_nil))), ?_⟩
  refine G_e 11 rfl (by decide +kernel) (N_cl Try.func37 rfl nn37 (fun w Q h => s37 _ w Q h) h ?_)
  intro v w h
  refine ⟨keepF_dep [9, 8] (by decide +kernel) rfl (keepF_dep [9, 6] (by decide +kernel) rfl (keepF_dep [10, 4, 3] (by decide +kernel) rfl (keepF_dep [10, 4, 1] (by decide +kernel) rfl keepF_nil))), ?_⟩
  refine G_p 12 rfl (by decide +kernel) (Y_as h) ?_
  intro v h
  refine G_done (by decide +kernel) ?_
  refine E_n ?_
  refine C_ret ?_
  show bodyPost Try.prog Try.f36 (Rt Q) .ret _ _
  exact post_tmps (ts := [4]) (.inr rfl) rfl h

def f19 (t0 t1 : Value) : M := cl (f29 t0) fun t6 => cl (f35 t6 (.func (.func 36) #[] #[])) fun t8 => mxm t1 (.int .i64 0) fun t11 => lnl t6 fun t13 => mnm t11 t13 fun t14 => sll 14 t6 none (some t14) fun t15 => rt t15
theorem s19 (t0 t1 : Value) (w : World) (Q : Value → World → Prop) (h : f19 t0 t1 w Q) : Calls Try.prog 19 #[t0, t1] w (Rt Q) := by
  refine calls_of (l := [t0, t1]) Try.func19 rfl Try.ntmps19 (Nat.le_of_ble_eq_true rfl) ?_
  unfold f19 at h
  refine wp_seq ?_
  refine L_region ?_
  refine L_as ?_
  refine L_nil ?_
  refine E_n ?_
  refine wp_seq ?_
  refine L_region ?_
  refine L_mv ?_
  refine L_u (N_cl Try.func29 rfl nn29 (fun w Q h => s29 _ w Q h) h) ?_
  intro v w h
  refine L_as ?_
  refine L_nil ?_
  refine E_n ?_
  refine wp_seq ?_
  refine L_region ?_
  refine L_mv ?_
  refine L_u (N_cl Try.func35 rfl nn35 (fun w Q h => s35 _ _ w Q h) h) ?_
  intro v w h
  refine L_nil ?_
  refine E_n ?_
  refine wp_seq ?_
  refine L_region ?_
  refine L_mv ?_
  refine L_mv ?_
  refine L_u (P_mxm (t := 0) h) ?_
  intro v w h
  refine L_mv ?_
  refine L_u (P_lnl is22 h) ?_
  intro v w h
  refine L_u (P_mnm (t := 0) h) ?_
  intro v w h
  refine L_u (P_sll se22 h) ?_
  intro v w h
  refine L_as ?_
  refine L_nil ?_
  refine E_n ?_
  refine C_ret ?_
  show bodyPost Try.prog Try.f19 (Rt Q) .ret _ _
  exact post_tmps (ts := [4]) (.inr rfl) rfl h
end Go.Proofs.Ytiajdaagamhbnaa
