/- The first layer of the shallow reading of Go code: environments as functions, predicate transformers, and the laws that carry a walk over a code's text. -/
import Derived.Shelf.Strings.OnBuilder
import Derived.Shelf.Strings.Trim
import Derived.Shelf.Strings.Repeat
import Derived.Test.YtongpnolikkknaaGreatDoorProg
import Derived.Orders
import Derived.OrdersHeld
import Derived.KernelRfl
import Derived.Laws.Sem
import Derived.Laws.Cells
import Derived.Laws.Strings
import Derived.Below
import Derived.Laws.AppendOwn
import Derived.Laws.OwnMore
set_option linter.unusedVariables false
set_option linter.unusedSimpArgs false
set_option linter.unusedSectionVars false
/-
  DERIVED: THE SHELF's CONTRACTS AT THIS DUMP, IN PLAIN WORDS (tools/lay-plain.mjs out of 'TryzKept.lean', which tools/lay-shelf.mjs wrote): THE SAME DECLARATIONS UNDER THE SAME NAMES: 'import', 'namespace', 'open', 'def', 'theorem' AND NOTHING ELSE: no command of the shelf's: FOR A HAND-IN. Each laying: the table of numbers ('.._ren') and one theorem, a field a fact of the dump's own or the kernel's comparison; each contract: ONE APPLICATION.
-/
namespace Go.Proofs
open Go.Shelf
def Tryz.lays156_ren : Go.Shelf.Ren := ⟨fun | 156 => 136 | 165 => 130 | 166 => 131 | 169 => 133 | 240 => 159 | 241 => 160 | 276 => 183 | 277 => 184 | n => n, fun | 31 => 100 | 9 => 9 | 3 => 3 | 4 => 4 | 0 => 0 | 20 => 20 | 72 => 176 | 76 => 179 | 70 => 174 | 37 => 42 | 75 => 178 | 127 => 203 | 164 => 227 | 5 => 5 | 80 => 99 | n => n, fun | n => n⟩
theorem Tryz.lays156 : Go.Proofs.Lays.n156 Tryz.prog Tryz.lays156_ren := {
  mixed := by kernel_rfl
  f156 := Tryz.func136.trans (congrArg some (by kernel_rfl))
  f165 := Tryz.func130.trans (congrArg some (by kernel_rfl))
  f166 := Tryz.func131.trans (congrArg some (by kernel_rfl))
  f169 := Tryz.func133.trans (congrArg some (by kernel_rfl))
  f240 := Tryz.func159.trans (congrArg some (by kernel_rfl))
  f241 := Tryz.func160.trans (congrArg some (by kernel_rfl))
  f276 := Tryz.func183.trans (congrArg some (by kernel_rfl))
  f277 := Tryz.func184.trans (congrArg some (by kernel_rfl))
  t0 := Tryz.underlying0
  a0 := Tryz.isAgg0
  z0 := Tryz.sizeOf0
  v0 := Tryz.zeroValue0
  t3 := Tryz.underlying3
  a3 := Tryz.isAgg3
  z3 := Tryz.sizeOf3
  v3 := Tryz.zeroValue3
  t4 := Tryz.underlying4
  a4 := Tryz.isAgg4
  z4 := Tryz.sizeOf4
  v4 := Tryz.zeroValue4
  t9 := Tryz.underlying9
  a9 := Tryz.isAgg9
  z9 := Tryz.sizeOf9
  v9 := Tryz.zeroValue9
  t20 := Tryz.underlying20
  a20 := Tryz.isAgg20
  z20 := Tryz.sizeOf20
  v20 := Tryz.zeroValue20
  t31 := Tryz.underlying100
  a31 := Tryz.isAgg100
  z31 := Tryz.sizeOf100
  v31 := Tryz.zeroValue100
  t37 := Tryz.underlying42
  a37 := Tryz.isAgg42
  z37 := Tryz.sizeOf42
  v37 := Tryz.zeroValue42
  t70 := Tryz.underlying174
  a70 := Tryz.isAgg174
  z70 := Tryz.sizeOf174
  v70 := Tryz.zeroValue174
  t72 := Tryz.underlying176
  a72 := Tryz.isAgg176
  z72 := Tryz.sizeOf176
  v72 := Tryz.zeroValue176
  t75 := Tryz.underlying178
  a75 := Tryz.isAgg178
  z75 := Tryz.sizeOf178
  v75 := Tryz.zeroValue178
  t76 := Tryz.underlying179
  a76 := Tryz.isAgg179
  z76 := Tryz.sizeOf179
  v76 := Tryz.zeroValue179
  t127 := Tryz.underlying203
  a127 := Tryz.isAgg203
  z127 := Tryz.sizeOf203
  v127 := Tryz.zeroValue203
  t164 := Tryz.underlying227
  a164 := Tryz.isAgg227
  z164 := Tryz.sizeOf227
  v164 := Tryz.zeroValue227 }
theorem Tryz.Builder_Extra_156 : Builder.Extra Tryz.prog Tryz.lays156_ren := {
  sizeBuilder := by kernel_rfl
  liesBuilder := by kernel_rfl
  t5 := Tryz.underlying5
  a5 := Tryz.isAgg5
  z5 := Tryz.sizeOf5
  v5 := Tryz.zeroValue5
  infoByte := by kernel_rfl
  cellsByte := by kernel_rfl
  sizeByte := by kernel_rfl
  neB5 := by decide }
open Go.RowKit in
/-- strings.Join: "Join concatenates the elements of its first argument to create a single string. The separator string sep is placed between elements in the resulting string.": HOWEVER MANY ELEMENTS. Below the heap's end the world is as it was. (LAID: no walk: one application.) -/
theorem Tryz.strings_Join (bk o c : Nat) (xs : List ByteArray) (sep : ByteArray) (w : World) (hcells : ∀ (j : Nat) x, xs[j]? = some x → w.cell? ⟨bk, o + j, none⟩ = some (.string x)) (hbk : bk < w.heap.size) (hN : xs.length ≤ 140737488355328) (hcap : xs.length ≤ c) (hlen : (Lib.join (xs.map (·.data.toList)) sep.data.toList).length ≤ 140737488355328) :
    Calls Tryz.prog 136 #[.slice (some ⟨bk, o, none⟩) xs.length c, .string sep] w fun e w' => e = .returned (.string ⟨(Lib.join (xs.map (·.data.toList)) sep.data.toList).toArray⟩) ∧ Below w.heap.size w w' := Any.strings_Join Tryz.lays156 Tryz.Builder_Extra_156 bk o c xs sep w hcells hbk hN hcap hlen
def Tryz.lays160_ren : Go.Shelf.Ren := ⟨fun | 160 => 143 | 232 => 166 | 231 => 165 | 227 => 167 | 234 => 169 | 233 => 168 | 236 => 171 | 235 => 170 | 228 => 185 | 271 => 188 | 151 => 187 | 197 => 186 | 120 => 197 | 152 => 196 | 260 => 195 | 137 => 199 | 119 => 200 | 224 => 201 | 225 => 202 | 217 => 203 | 266 => 204 | n => n, fun | 9 => 9 | 4 => 4 | 3 => 3 | 5 => 5 | 117 => 212 | 116 => 211 | 0 => 0 | 124 => 215 | 21 => 21 | 105 => 231 | 46 => 37 | 119 => 244 | 139 => 247 | 138 => 246 | n => n, fun | 3 => 1 | 4 => 2 | n => n⟩
theorem Tryz.lays160 : Go.Proofs.Lays.n160 Tryz.prog Tryz.lays160_ren := {
  mixed := by kernel_rfl
  f119 := Tryz.func200.trans (congrArg some (by kernel_rfl))
  f120 := Tryz.func197.trans (congrArg some (by kernel_rfl))
  f137 := Tryz.func199.trans (congrArg some (by kernel_rfl))
  f151 := Tryz.func187.trans (congrArg some (by kernel_rfl))
  f152 := Tryz.func196.trans (congrArg some (by kernel_rfl))
  f160 := Tryz.func143.trans (congrArg some (by kernel_rfl))
  f197 := Tryz.func186.trans (congrArg some (by kernel_rfl))
  f217 := Tryz.func203.trans (congrArg some (by kernel_rfl))
  f224 := Tryz.func201.trans (congrArg some (by kernel_rfl))
  f225 := Tryz.func202.trans (congrArg some (by kernel_rfl))
  f227 := Tryz.func167.trans (congrArg some (by kernel_rfl))
  f228 := Tryz.func185.trans (congrArg some (by kernel_rfl))
  f231 := Tryz.func165.trans (congrArg some (by kernel_rfl))
  f232 := Tryz.func166.trans (congrArg some (by kernel_rfl))
  f233 := Tryz.func168.trans (congrArg some (by kernel_rfl))
  f234 := Tryz.func169.trans (congrArg some (by kernel_rfl))
  f235 := Tryz.func170.trans (congrArg some (by kernel_rfl))
  f236 := Tryz.func171.trans (congrArg some (by kernel_rfl))
  f260 := Tryz.func195.trans (congrArg some (by kernel_rfl))
  f266 := Tryz.func204.trans (congrArg some (by kernel_rfl))
  f271 := Tryz.func188.trans (congrArg some (by kernel_rfl))
  t0 := Tryz.underlying0
  a0 := Tryz.isAgg0
  z0 := Tryz.sizeOf0
  v0 := Tryz.zeroValue0
  t3 := Tryz.underlying3
  a3 := Tryz.isAgg3
  z3 := Tryz.sizeOf3
  v3 := Tryz.zeroValue3
  t4 := Tryz.underlying4
  a4 := Tryz.isAgg4
  z4 := Tryz.sizeOf4
  v4 := Tryz.zeroValue4
  t5 := Tryz.underlying5
  a5 := Tryz.isAgg5
  z5 := Tryz.sizeOf5
  v5 := Tryz.zeroValue5
  t9 := Tryz.underlying9
  a9 := Tryz.isAgg9
  z9 := Tryz.sizeOf9
  v9 := Tryz.zeroValue9
  t21 := Tryz.underlying21
  a21 := Tryz.isAgg21
  z21 := Tryz.sizeOf21
  v21 := Tryz.zeroValue21
  t46 := Tryz.underlying37
  a46 := Tryz.isAgg37
  z46 := Tryz.sizeOf37
  v46 := Tryz.zeroValue37
  t105 := Tryz.underlying231
  a105 := Tryz.isAgg231
  z105 := Tryz.sizeOf231
  v105 := Tryz.zeroValue231
  t116 := Tryz.underlying211
  a116 := Tryz.isAgg211
  z116 := Tryz.sizeOf211
  t117 := Tryz.underlying212
  a117 := Tryz.isAgg212
  z117 := Tryz.sizeOf212
  v117 := Tryz.zeroValue212
  t119 := Tryz.underlying244
  a119 := Tryz.isAgg244
  z119 := Tryz.sizeOf244
  t124 := Tryz.underlying215
  a124 := Tryz.isAgg215
  z124 := Tryz.sizeOf215
  v124 := Tryz.zeroValue215
  t138 := Tryz.underlying246
  a138 := Tryz.isAgg246
  z138 := Tryz.sizeOf246
  v138 := Tryz.zeroValue246
  t139 := Tryz.underlying247
  a139 := Tryz.isAgg247
  z139 := Tryz.sizeOf247
  v139 := Tryz.zeroValue247
  g3 := by kernel_rfl
  g4 := by kernel_rfl }
open Go.RowKit in
/-- strings.Trim: "Trim returns a slice of the string s with all leading and trailing Unicode code points contained in cutset removed.": AT A cutset OF ONE ASCII BYTE. THE WORLD BEHIND IT: as it was, or (where s is not empty) with ONE DRAW MORE off the tape: the statement 'return trimLeftByte(trimRightByte(s, c), c)' draws its order of evaluation. (LAID: no walk: one application.) -/
theorem Tryz.strings_Trim_one (s : ByteArray) (c : UInt8) (hc : c.toNat < 128) (w : World) (hs : s.size ≤ 9223372036854775807) :
    Calls Tryz.prog 143 #[.string s, .string ⟨#[c]⟩] w fun e w' => e = .returned (.string ⟨(Lib.trimB s.data.toList c).toArray⟩) ∧ (w' = w ∨ w' = w.drew) := Any.strings_Trim_one Tryz.lays160 s c hc w hs
def Tryz.lays105_ren : Go.Shelf.Ren := ⟨fun | 105 => 106 | 212 => 128 | 99 => 129 | 165 => 130 | 166 => 131 | 170 => 132 | 169 => 133 | 263 => 156 | 264 => 157 | 206 => 158 | 240 => 159 | 241 => 160 | 276 => 183 | 277 => 184 | n => n, fun | 9 => 9 | 3 => 3 | 4 => 4 | 20 => 20 | 0 => 0 | 46 => 37 | 109 => 171 | 5 => 5 | 72 => 176 | 76 => 179 | 51 => 198 | 146 => 199 | 53 => 185 | 148 => 201 | 70 => 174 | 37 => 42 | 75 => 178 | 127 => 203 | 164 => 227 | 80 => 99 | n => n, fun | n => n⟩
theorem Tryz.lays105 : Go.Proofs.Lays.n105 Tryz.prog Tryz.lays105_ren := {
  mixed := by kernel_rfl
  f99 := Tryz.func129.trans (congrArg some (by kernel_rfl))
  f105 := Tryz.func106.trans (congrArg some (by kernel_rfl))
  f165 := Tryz.func130.trans (congrArg some (by kernel_rfl))
  f166 := Tryz.func131.trans (congrArg some (by kernel_rfl))
  f169 := Tryz.func133.trans (congrArg some (by kernel_rfl))
  f170 := Tryz.func132.trans (congrArg some (by kernel_rfl))
  f206 := Tryz.func158.trans (congrArg some (by kernel_rfl))
  f212 := Tryz.func128.trans (congrArg some (by kernel_rfl))
  f240 := Tryz.func159.trans (congrArg some (by kernel_rfl))
  f241 := Tryz.func160.trans (congrArg some (by kernel_rfl))
  f263 := Tryz.func156.trans (congrArg some (by kernel_rfl))
  f264 := Tryz.func157.trans (congrArg some (by kernel_rfl))
  f276 := Tryz.func183.trans (congrArg some (by kernel_rfl))
  f277 := Tryz.func184.trans (congrArg some (by kernel_rfl))
  t0 := Tryz.underlying0
  a0 := Tryz.isAgg0
  z0 := Tryz.sizeOf0
  v0 := Tryz.zeroValue0
  t3 := Tryz.underlying3
  a3 := Tryz.isAgg3
  z3 := Tryz.sizeOf3
  v3 := Tryz.zeroValue3
  t4 := Tryz.underlying4
  a4 := Tryz.isAgg4
  z4 := Tryz.sizeOf4
  v4 := Tryz.zeroValue4
  t5 := Tryz.underlying5
  a5 := Tryz.isAgg5
  z5 := Tryz.sizeOf5
  v5 := Tryz.zeroValue5
  t9 := Tryz.underlying9
  a9 := Tryz.isAgg9
  z9 := Tryz.sizeOf9
  v9 := Tryz.zeroValue9
  t20 := Tryz.underlying20
  a20 := Tryz.isAgg20
  z20 := Tryz.sizeOf20
  v20 := Tryz.zeroValue20
  t37 := Tryz.underlying42
  a37 := Tryz.isAgg42
  z37 := Tryz.sizeOf42
  v37 := Tryz.zeroValue42
  t46 := Tryz.underlying37
  a46 := Tryz.isAgg37
  z46 := Tryz.sizeOf37
  v46 := Tryz.zeroValue37
  t51 := Tryz.underlying198
  a51 := Tryz.isAgg198
  z51 := Tryz.sizeOf198
  v51 := Tryz.zeroValue198
  t53 := Tryz.underlying185
  a53 := Tryz.isAgg185
  z53 := Tryz.sizeOf185
  v53 := Tryz.zeroValue185
  t70 := Tryz.underlying174
  a70 := Tryz.isAgg174
  z70 := Tryz.sizeOf174
  v70 := Tryz.zeroValue174
  t72 := Tryz.underlying176
  a72 := Tryz.isAgg176
  z72 := Tryz.sizeOf176
  v72 := Tryz.zeroValue176
  t75 := Tryz.underlying178
  a75 := Tryz.isAgg178
  z75 := Tryz.sizeOf178
  v75 := Tryz.zeroValue178
  t76 := Tryz.underlying179
  a76 := Tryz.isAgg179
  z76 := Tryz.sizeOf179
  v76 := Tryz.zeroValue179
  t109 := Tryz.underlying171
  a109 := Tryz.isAgg171
  z109 := Tryz.sizeOf171
  v109 := Tryz.zeroValue171
  t127 := Tryz.underlying203
  a127 := Tryz.isAgg203
  z127 := Tryz.sizeOf203
  v127 := Tryz.zeroValue203
  t146 := Tryz.underlying199
  a146 := Tryz.isAgg199
  z146 := Tryz.sizeOf199
  v146 := Tryz.zeroValue199
  t148 := Tryz.underlying201
  a148 := Tryz.isAgg201
  z148 := Tryz.sizeOf201
  v148 := Tryz.zeroValue201
  t164 := Tryz.underlying227
  a164 := Tryz.isAgg227
  z164 := Tryz.sizeOf227
  v164 := Tryz.zeroValue227 }
theorem Tryz.Builder_Extra_105 : Builder.Extra Tryz.prog Tryz.lays105_ren := {
  sizeBuilder := by kernel_rfl
  liesBuilder := by kernel_rfl
  t5 := Tryz.underlying5
  a5 := Tryz.isAgg5
  z5 := Tryz.sizeOf5
  v5 := Tryz.zeroValue5
  infoByte := by kernel_rfl
  cellsByte := by kernel_rfl
  sizeByte := by kernel_rfl
  neB5 := by decide }
open Go.RowKit Go.Lib in
/-- **strings.Repeat: count ≥ 0, the result within one allocation: count copies of s.** (LAID: no walk: one application.) -/
theorem Tryz.strings_Repeat (s : ByteArray) (c : Nat) (w : World) (hc : c ≤ 9223372036854775807) (hlen : s.size * c ≤ 140737488355328) :
    Calls Tryz.prog 106 #[.string s, .int .i64 c] w fun e w' => e = .returned (.string ⟨(Lib.repeatL s.data.toList c).toArray⟩) ∧ Below w.heap.size w w' := Any.strings_Repeat Tryz.lays105 Tryz.Builder_Extra_105 s c w hc hlen
end Go.Proofs

namespace Go.Proofs.YtongpnolikkknaaGreatDoor
namespace Sh

/-- A piece of code, read as: what must hold so that from this world it comes to a value and a world of which Q holds. -/
abbrev M := World → (Value → World → Prop) → Prop

def upd (ρ : Nat → Value) (d : Nat) (v : Value) : Nat → Value := fun t => bif Nat.beq t d then v else ρ t
def act (N : Nat) (ρ : Nat → Value) : Act := { tmps := Array.ofFn (n := N) fun i => ρ i, defers := [] }
def ini (l : List Value) : Nat → Value := fun t => l.getD t undef
def opv (N : Nat) (ρ : Nat → Value) : Operand → Value
  | .tmp t => bif Nat.blt t N then ρ t else undef
  | .const v => v
  | .global g => .pointer (some ⟨g, 0, none⟩)
  | .func f => .func (.func f) #[] #[]

section
variable {P : Program} {N : Nat} {ρ : Nat → Value} {w : World}

theorem put_act (d : Nat) (v : Value) : (act N ρ).put (some d) v = act N (upd ρ d v) := by
  simp only [act, Act.put]
  congr 1
  apply Array.ext
  · simp
  · intro i h1 h2
    simp only [Array.size_setIfInBounds, Array.size_ofFn] at h1
    by_cases e : d = i
    · subst e
      simp [upd]
    · rw [Array.getElem_setIfInBounds_ne (by simpa using h1) e]
      simp only [Array.getElem_ofFn]
      have : Nat.beq i d = false := by
        cases hb : Nat.beq i d with
        | false => rfl
        | true => exact absurd (Nat.eq_of_beq_eq_true hb).symm e
      simp [upd, this]

theorem tmps_act (t : Nat) : (act N ρ).tmps.getD t undef = bif Nat.blt t N then ρ t else undef := by
  simp only [act]
  by_cases h : t < N
  · have : Nat.blt t N = true := by simpa using h
    simp [this, Array.getD, h]
  · have : Nat.blt t N = false := by
      cases hb : Nat.blt t N with
      | false => rfl
      | true => exact absurd (by simpa using hb) h
    simp [this, Array.getD, h]

theorem eval_act : (act N ρ).eval = opv N ρ := by
  funext x
  cases x with
  | tmp t => exact tmps_act t
  | _ => rfl

theorem ini_act {l : List Value} {n : Nat} (h : l.length ≤ n) : ({ tmps := l.toArray ++ Array.replicate (n - l.length) undef, defers := [] } : Act) = act n (ini l) := by
  simp only [act]
  congr 1
  apply Array.ext
  · simp; omega
  · intro i h1 h2
    simp at h1 h2
    simp only [Array.getElem_ofFn, ini]
    by_cases e : i < l.length
    · rw [Array.getElem_append_left (by simpa using e)]
      simp [List.getD, e]
    · rw [Array.getElem_append_right (by simpa using Nat.le_of_not_lt e)]
      simp [List.getD, e]

/-- What a call comes to: it returns, and of its value and world this holds. -/
def Rt (Q : Value → World → Prop) : Ending → World → Prop
  | .returned v, w => Q v w
  | _, _ => False

theorem calls_of {f : FuncId} {fn : Func} {c : Code} {l : List Value} {Q : Value → World → Prop} (hf : P.funcs[f]? = some fn) (hb : fn.body = some c) (hn : fn.ntmps = N) (hl : l.length ≤ N)
    (h : c.wp P (bodyPost P fn (Rt Q)) (act N (ini l)) w) : Calls P f l.toArray w (Rt Q) := by
  refine calls_of_wp hf hb ?_
  rw [hn, show l.toArray.size = l.length from by simp, ini_act hl]
  exact h

/-! ### regions whose order is the text's -/
def wpL (P : Program) (all : Array Oper) (Q : Exit → Act → World → Prop) : List Oper → Act → World → Prop
  | [], a, w => Q .normal a w
  | o :: r, a, w => if Region.wanted o (yielded all a.tmps) then o.wp P a w (wpL P all Q r) Q else wpL P all Q r (a.put o.dst undef) w

theorem wpOps_of_wpL {all : Array Oper} {Q : Exit → Act → World → Prop} : ∀ (l : List Oper) (k : Nat) (a : Act) (w : World), (∀ j, l[j]? = all[k + j]?) → wpL P all Q l a w → wpOps P all Q (List.range' k l.length) a w := by
  intro l
  induction l with
  | nil => intro k a w _ h; exact h
  | cons o l ih =>
    intro k a w hl h
    have h0 : all[k]? = some o := by simpa using (hl 0).symm
    simp only [List.length_cons, List.range'_succ, wpOps, h0]
    have hn : ∀ j, l[j]? = all[k + 1 + j]? := fun j => by have := hl (j + 1); simpa [Nat.add_assoc, Nat.add_comm 1 j] using this
    simp only [wpL] at h
    split
    · rename_i hw
      rw [if_pos hw] at h
      exact .inl (Oper.wp_mono (fun a w => ih (k + 1) a w hn) h)
    · rename_i hw
      rw [if_neg hw] at h
      exact ih (k + 1) _ _ hn h

theorem L_region {id : Nat} {l : List Oper} {Q : Exit → Act → World → Prop} {a : Act} (h : wpL P l.toArray Q l a w) : (Code.region id l.toArray false).wp P Q a w := by
  refine wp_region ?_
  have := wpOps_of_wpL (P := P) (all := l.toArray) l 0 a w (by simp) h
  simpa [List.range_eq_range'] using this

theorem L_nil {all : Array Oper} {Q : Exit → Act → World → Prop} {a : Act} (h : Q .normal a w) : wpL P all Q [] a w := h

end
end Sh
end Go.Proofs.YtongpnolikkknaaGreatDoor

namespace Go.Proofs.YtongpnolikkknaaGreatDoor
namespace Sh
/-- One block more. -/
def psh (w : World) (o : Obj) : World := { w with heap := w.heap.push o }
/-- One draw more. -/
def drw (w : World) : World := { w with drawn := w.drawn + 1 }
/-- A block's new content. -/
def sb (w : World) (b : Nat) (o : Obj) : World := { w with heap := w.heap.setIfInBounds b o }

/-! closed looks into the tables -/
def isSc (P : Program) (t : TypeId) : Bool := match P.underlying t with | some (.struct _) | some (.array _ _) | none => false | _ => true
def isAg (P : Program) (t : TypeId) (n : Nat) : Bool := (match P.underlying t with | some (.struct _) | some (.array _ _) => true | _ => false) && ((P.info? t).map (·.size) == some n)
def isOne (P : Program) (t : TypeId) : Bool := (P.info? t).map (·.size) == some 1
def fOff (P : Program) (s f k : Nat) : Bool := match P.underlying s with
  | some (.struct fs) => match fs[f]? with
    | some fd => fd.offset == k && (match P.info? fd.type with | some i => i.size != 0 | none => false)
    | none => false
  | _ => false
def slE (P : Program) (t n : Nat) : Bool := match P.underlying t with | some (.slice e) => (P.info? e).map (·.size) == some n | _ => false
def arE (P : Program) (t len n : Nat) : Bool := match P.underlying t with | some (.array l e) => l == len && (P.info? e).map (·.size) == some n | _ => false
def isInt (P : Program) (t : TypeId) (k : IntKind) : Bool := match P.underlying t with | some (.int j) => j == k | _ => false
def isStr (P : Program) (t : TypeId) : Bool := match P.underlying t with | some .string => true | _ => false
def isSl (P : Program) (t : TypeId) : Bool := match P.underlying t with | some (.slice _) => true | _ => false
def zeroIs (P : Program) (t : TypeId) (z : Value) : Prop := (P.info? t).bind (·.zero) = some z

/-! the operations -/
def okNil : Value → Bool
  | .pointer none | .nilIface | .nilFunc => false
  | .func (.method _) _ _ => false
  | _ => true
def nc (x : Value) (K : Value → M) : M := fun w Q => okNil x = true ∧ K x w Q
def fa (k : Nat) (x : Value) (K : Value → M) : M := fun w Q => ∃ a, x = .pointer (some a) ∧ K (.pointer (some (a.add k))) w Q
def ld (x : Value) (K : Value → M) : M := fun w Q => ∃ a v, x = .pointer (some a) ∧ w.cell? a = some v ∧ K v w Q
def rds (w : World) (a : Addr) (cs : Array Value) : Prop := ∀ j v, cs[j]? = some v → w.cell? (a.add j) = some v
def ldn (n : Nat) (x : Value) (K : Value → M) : M := fun w Q => ∃ a cs, x = .pointer (some a) ∧ cs.size = n ∧ rds w a cs ∧ K (.agg cs) w Q
def st (x v : Value) (K : M) : M := fun w Q => ∃ a, x = .pointer (some a) ∧ (w.cell? a).isSome = true ∧ w.frozen? a = false ∧ v.oneCell' = true ∧ K (w.setCell a v) Q
def sts : World → Addr → List Value → Nat → Option World
  | w, _, [], _ => some w
  | w, a, v :: r, i => if (w.cell? (a.add i)).isSome && !(w.frozen? (a.add i)) && v.oneCell' then sts (w.setCell (a.add i) v) a r (i + 1) else none
def stn (n : Nat) (x v : Value) (K : M) : M := fun w Q => ∃ a cs w', x = .pointer (some a) ∧ v = .agg cs ∧ cs.size = n ∧ sts w a cs.toList 0 = some w' ∧ K w' Q
def ad (k : IntKind) (x y : Value) (K : Value → M) : M := fun w Q => ∃ a b, x = .int k a ∧ y = .int k b ∧ K (.int k (k.wrap (a + b))) w Q
def su (k : IntKind) (x y : Value) (K : Value → M) : M := fun w Q => ∃ a b, x = .int k a ∧ y = .int k b ∧ K (.int k (k.wrap (a - b))) w Q
def mu (k : IntKind) (x y : Value) (K : Value → M) : M := fun w Q => ∃ a b, x = .int k a ∧ y = .int k b ∧ K (.int k (k.wrap (a * b))) w Q
def qu (k : IntKind) (x y : Value) (K : Value → M) : M := fun w Q => ∃ a b, x = .int k a ∧ y = .int k b ∧ b ≠ 0 ∧ K (.int k (k.wrap (a.tdiv b))) w Q
def re (k : IntKind) (x y : Value) (K : Value → M) : M := fun w Q => ∃ a b, x = .int k a ∧ y = .int k b ∧ b ≠ 0 ∧ K (.int k (a.tmod b)) w Q
def lt (k : IntKind) (x y : Value) (K : Value → M) : M := fun w Q => ∃ a b, x = .int k a ∧ y = .int k b ∧ K (.bool (decide (a < b))) w Q
def le (k : IntKind) (x y : Value) (K : Value → M) : M := fun w Q => ∃ a b, x = .int k a ∧ y = .int k b ∧ K (.bool (decide (a ≤ b))) w Q
def gt (k : IntKind) (x y : Value) (K : Value → M) : M := fun w Q => ∃ a b, x = .int k a ∧ y = .int k b ∧ K (.bool (decide (b < a))) w Q
def ge (k : IntKind) (x y : Value) (K : Value → M) : M := fun w Q => ∃ a b, x = .int k a ∧ y = .int k b ∧ K (.bool (decide (b ≤ a))) w Q
def eqi (k : IntKind) (x y : Value) (K : Value → M) : M := fun w Q => ∃ a b, x = .int k a ∧ y = .int k b ∧ K (.bool (decide (a = b))) w Q
def nei (k : IntKind) (x y : Value) (K : Value → M) : M := fun w Q => ∃ a b, x = .int k a ∧ y = .int k b ∧ K (.bool (decide (a ≠ b))) w Q
def bws (op : BinOp) (k : IntKind) (x y : Value) (K : Value → M) : M := fun w Q => ∃ a b v, x = .int k a ∧ y = .int k b ∧ (∀ P : Program, ∀ w : World, (Op.intBits op k a b).run P w = .ok v w) ∧ K v w Q
def shl (k j : IntKind) (x y : Value) (K : Value → M) : M := fun w Q => ∃ a b, x = .int k a ∧ y = .int j b ∧ 0 ≤ b ∧ K (.int k (k.wrap (a * 2 ^ (min b.toNat k.bits)))) w Q
def shr (k j : IntKind) (x y : Value) (K : Value → M) : M := fun w Q => ∃ a b, x = .int k a ∧ y = .int j b ∧ 0 ≤ b ∧ K (.int k (a.fdiv (2 ^ (min b.toNat k.bits)))) w Q
def cat (x y : Value) (K : Value → M) : M := fun w Q => ∃ a b, x = .string a ∧ y = .string b ∧ a.size + b.size ≤ 9223372036854775807 ∧ K (.string (a ++ b)) w Q
def eqs (x y : Value) (K : Value → M) : M := fun w Q => ∃ a b, x = .string a ∧ y = .string b ∧ K (.bool (decide (a = b))) w Q
def nes (x y : Value) (K : Value → M) : M := fun w Q => ∃ a b, x = .string a ∧ y = .string b ∧ K (.bool (decide (a ≠ b))) w Q
def lts (x y : Value) (K : Value → M) : M := fun w Q => ∃ a b, x = .string a ∧ y = .string b ∧ K (.bool (Op.bytesLess a.toList b.toList)) w Q
def gts (x y : Value) (K : Value → M) : M := fun w Q => ∃ a b, x = .string a ∧ y = .string b ∧ K (.bool !(Op.bytesLess a.toList b.toList || a.toList == b.toList)) w Q
def eqb (x y : Value) (K : Value → M) : M := fun w Q => ∃ a b, x = .bool a ∧ y = .bool b ∧ K (.bool (a == b)) w Q
def neb (x y : Value) (K : Value → M) : M := fun w Q => ∃ a b, x = .bool a ∧ y = .bool b ∧ K (.bool !(a == b)) w Q
def nt (x : Value) (K : Value → M) : M := fun w Q => ∃ b, x = .bool b ∧ K (.bool !b) w Q
def pk (c x y : Value) (K : Value → M) : M := fun w Q => ∃ b, c = .bool b ∧ K (bif b then x else y) w Q
def cv (k : IntKind) (x : Value) (K : Value → M) : M := fun w Q => ∃ j a, x = .int j a ∧ K (.int k (k.wrap a)) w Q
def al (t : TypeId) (cs : Array Value) (K : Value → M) : M := fun w Q => K (.pointer (some ⟨w.heap.size, 0, none⟩)) (psh w (.cells cs t)) Q
def bx (t : TypeId) (v : Value) (K : Value → M) : M := fun w Q => K (.pointer (some ⟨w.heap.size, 0, none⟩)) (psh w (.cells v.cells t)) Q
def ex (i : Nat) (x : Value) (K : Value → M) : M := fun w Q => ∃ vs v, x = .tuple vs ∧ vs[i]? = some v ∧ K v w Q
def fld (off : Nat) (x : Value) (K : Value → M) : M := fun w Q => ∃ cs v, x = .agg cs ∧ cs[off]? = some v ∧ K v w Q
def fldn (off n : Nat) (x : Value) (K : Value → M) : M := fun w Q => ∃ cs, x = .agg cs ∧ K (.agg (cs.extract off (off + n))) w Q
def lnl (x : Value) (K : Value → M) : M := fun w Q => ∃ a l c, x = .slice a l c ∧ K (.int .i64 l) w Q
def lns (x : Value) (K : Value → M) : M := fun w Q => ∃ s, x = .string s ∧ K (.int .i64 s.size) w Q
def ia (n : Nat) (x i : Value) (K : Value → M) : M := fun w Q => ∃ a l c k j, x = .slice (some a) l c ∧ i = .int k j ∧ 0 ≤ j ∧ j < l ∧ K (.pointer (some (a.add (j.toNat * n)))) w Q
def iaa (len n : Nat) (x i : Value) (K : Value → M) : M := fun w Q => ∃ a k j, x = .pointer (some a) ∧ i = .int k j ∧ 0 ≤ j ∧ j < len ∧ K (.pointer (some (a.add (j.toNat * n)))) w Q
def ixs (x i : Value) (K : Value → M) : M := fun w Q => ∃ s k j b, x = .string s ∧ i = .int k j ∧ 0 ≤ j ∧ s[j.toNat]? = some b ∧ K (.int .u8 (b.toNat : Int)) w Q
def bnd (o : Option Value) (d m : Nat) (l : Nat) : Prop := match o with | none => l = d | some v => ∃ k j, v = .int k j ∧ 0 ≤ j ∧ j ≤ m ∧ l = j.toNat
def sls (x : Value) (lo hi : Option Value) (K : Value → M) : M := fun w Q => ∃ s l h, x = .string s ∧ bnd hi s.size s.size h ∧ bnd lo 0 h l ∧ K (.string (s.extract l h)) w Q
def sll (n : Nat) (x : Value) (lo hi : Option Value) (K : Value → M) : M := fun w Q => ∃ a len cap l h, x = .slice a len cap ∧ bnd hi len cap h ∧ bnd lo 0 h l ∧ K (.slice (if cap = l then a else a.map (·.add (l * n))) (h - l) (cap - l)) w Q
def sla (len n : Nat) (x : Value) (lo hi : Option Value) (K : Value → M) : M := fun w Q => ∃ a l h, x = .pointer (some a) ∧ bnd hi len len h ∧ bnd lo 0 h l ∧ K (.slice (some (if len = l then a else a.add (l * n))) (h - l) (len - l)) w Q
def mif (t : TypeId) (x : Value) (K : Value → M) : M := fun w Q => K (.iface t x) w Q
def mnm (x y : Value) (K : Value → M) : M := fun w Q => ∃ k a b, x = .int k a ∧ y = .int k b ∧ K (.int k (if b < a then b else a)) w Q
def mxm (x y : Value) (K : Value → M) : M := fun w Q => ∃ k a b, x = .int k a ∧ y = .int k b ∧ K (.int k (if a < b then b else a)) w Q
def mm (K : Value → M) : M := fun w Q => K (.map (some w.heap.size)) (psh w (.map #[] 0)) Q
def asrt (t : TypeId) (x : Value) (K : Value → M) : M := fun w Q => ∃ v, x = .iface t v ∧ K v w Q
/-- Any operation that yields a value, by its own run. -/
def sm (P : Program) (s : Sem Value) (K : Value → M) : M := fun w Q => ∃ v w', s.run P w = .ok v w' ∧ K v w' Q
def smu (P : Program) (s : Sem Unit) (K : M) : M := fun w Q => ∃ w', s.run P w = .ok () w' ∧ K w' Q
/-- A call that another predicate transformer tells. -/
def cl (f : M) (K : Value → M) : M := fun w Q => f w (fun v w' => K v w' Q)
def cc (P : Program) (f : FuncId) (args : Array Value) (K : Value → M) : M := fun w Q => Calls P f args w (Rt (fun v w' => K v w' Q))
/-- A call of a function value. -/
def cf (P : Program) (x : Value) (args : Array Value) (K : Value → M) : M := fun w Q => ∃ f z cap, x = .func (.func f) z cap ∧ (callFunc f (z ++ args ++ cap)).run P w = .ok (.enter f (z ++ args ++ cap)) w ∧ Calls P f (z ++ args ++ cap) w (Rt (fun v w' => K v w' Q))
/-- A call through an interface. -/
def ci (P : Program) (x : Value) (m : String) (args : Array Value) (K : Value → M) : M := fun w Q => ∃ f gs w1, (callMethod x m args).run P w = .ok (.enter f gs) w1 ∧ Calls P f gs w1 (Rt (fun v w' => K v w' Q))
def cnd (c : Value) (A B : M) : M := fun w Q => ∃ b, c = .bool b ∧ (bif b then A w Q else B w Q)
def gdB (v : Value) (want : Bool) : Bool := match v with | .bool b => b == want | _ => false
def gd (v : Value) (want : Bool) (A : (Value → M) → M) (K : Value → M) : M := fun w Q => bif gdB v want then A K w Q else K undef w Q
def gdu (v : Value) (want : Bool) (A : M → M) (K : M) : M := fun w Q => bif gdB v want then A K w Q else K w Q
def rt (v : Value) : M := fun w Q => Q v w
def bot : M := fun _ _ => False
end Sh
end Go.Proofs.YtongpnolikkknaaGreatDoor

namespace Go.Proofs.YtongpnolikkknaaGreatDoor
namespace Sh
section
variable {P : Program} {N : Nat} {ρ : Nat → Value} {w : World} {d : Nat} {ty : TypeId} {pos : String} {aft : Array Edge} {g : Option (Nat × Bool)}
  {next : Act → World → Prop} {Qx : Exit → Act → World → Prop} {Qm : Value → World → Prop} {K : Value → M} {K0 : M}

theorem wp_run {op : Op} {v : Value} {w' : World} (hr : (execOp (opv N ρ) ⟨some d, op, ty, pos, aft, g⟩).run P w = .ok (.value v) w')
    (h : next (act N (upd ρ d v)) w') : Oper.wp P ⟨some d, op, ty, pos, aft, g⟩ (act N ρ) w next Qx := by
  simp only [Oper.wp, eval_act, hr, Oper.upon, put_act]; exact h
theorem wp_run0 {op : Op} {w' : World} (hr : (execOp (opv N ρ) ⟨none, op, ty, pos, aft, g⟩).run P w = .ok .skip w')
    (h : next (act N ρ) w') : Oper.wp P ⟨none, op, ty, pos, aft, g⟩ (act N ρ) w next Qx := by
  simp only [Oper.wp, eval_act, hr, Oper.upon, Act.put]; exact h
/-- a value that nobody takes up -/
theorem wp_runv {op : Op} {v : Value} {w' : World} (hr : (execOp (opv N ρ) ⟨none, op, ty, pos, aft, g⟩).run P w = .ok (.value v) w')
    (h : next (act N ρ) w') : Oper.wp P ⟨none, op, ty, pos, aft, g⟩ (act N ρ) w next Qx := by
  simp only [Oper.wp, eval_act, hr, Oper.upon, Act.put]; exact h

/-! stepping over an operation, guarded or not -/
theorem L_u {all : Array Oper} {r : List Oper} {dst : Option Tmp} {op : Op} {X : Prop}
    (hp : X → Oper.wp P ⟨dst, op, ty, pos, aft, none⟩ (act N ρ) w (wpL P all Qx r) Qx) (c : X) : wpL P all Qx (⟨dst, op, ty, pos, aft, none⟩ :: r) (act N ρ) w := by
  simp only [wpL, Region.wanted, if_true]; exact hp c
theorem wanted_act {all : Array Oper} {dst : Option Tmp} {op : Op} {j t : Nat} {want : Bool} (hj : (all[j]?).bind (·.dst) = some t) (ht : Nat.blt t N = true) :
    Region.wanted ⟨dst, op, ty, pos, aft, some (j, want)⟩ (yielded all (act N ρ).tmps) = gdB (ρ t) want := by
  have hy : yielded all (act N ρ).tmps j = match ρ t with | .bool b => some b | _ => none := by
    unfold yielded
    rw [hj]
    have h : t < N := by simpa using ht
    simp [act, h]
    generalize ρ t = z
    cases z <;> rfl
  simp only [Region.wanted, hy, gdB]
  cases ρ t <;> simp
theorem L_g {all : Array Oper} {r : List Oper} {op : Op} {j t : Nat} {want : Bool} {A : (Value → M) → M}
    (h : gd (ρ t) want A K w Qm) (hj : (all[j]?).bind (·.dst) = some t) (ht : Nat.blt t N = true)
    (hp : (∀ v w', K v w' Qm → wpL P all Qx r (act N (upd ρ d v)) w') → A K w Qm → Oper.wp P ⟨some d, op, ty, pos, aft, some (j, want)⟩ (act N ρ) w (wpL P all Qx r) Qx)
    (c : ∀ v w', K v w' Qm → wpL P all Qx r (act N (upd ρ d v)) w') : wpL P all Qx (⟨some d, op, ty, pos, aft, some (j, want)⟩ :: r) (act N ρ) w := by
  simp only [wpL, wanted_act hj ht]
  unfold gd at h
  cases hb : gdB (ρ t) want <;> rw [hb] at h
  · simp only [cond_false, Bool.false_eq_true, if_false, put_act] at h ⊢; exact c _ _ h
  · simp only [cond_true, if_true] at h ⊢; exact hp c h
theorem L_mv {all : Array Oper} {r : List Oper} {x : Operand} (h : wpL P all Qx r (act N (upd ρ d (opv N ρ x))) w) : wpL P all Qx (⟨some d, .move x, ty, pos, aft, none⟩ :: r) (act N ρ) w := by
  simp only [wpL, Region.wanted, if_true]; exact wp_run (by simp [execOp]) h
theorem L_as {all : Array Oper} {r : List Oper} {x : Operand} (h : wpL P all Qx r (act N (upd ρ d (opv N ρ x))) w) : wpL P all Qx (⟨some d, .assign x, ty, pos, aft, none⟩ :: r) (act N ρ) w := by
  simp only [wpL, Region.wanted, if_true]; exact wp_run (by simp [execOp]) h
def idv (x : Value) (K : Value → M) : M := K x
theorem P_mv {x : Operand} (h : idv (opv N ρ x) K w Qm) (c : ∀ v w', K v w' Qm → next (act N (upd ρ d v)) w') : Oper.wp P ⟨some d, .move x, ty, pos, aft, g⟩ (act N ρ) w next Qx :=
  wp_run (by simp [execOp]) (c _ _ h)
theorem P_nc {x : Operand} (h : nc (opv N ρ x) K w Qm) (c : ∀ v w', K v w' Qm → next (act N (upd ρ d v)) w') : Oper.wp P ⟨some d, .nilCheck x, ty, pos, aft, g⟩ (act N ρ) w next Qx := by
  obtain ⟨h1, h2⟩ := h
  refine wp_run ?_ (c _ _ h2)
  revert h1
  simp only [execOp]
  generalize opv N ρ x = v
  intro h1
  cases v with
  | pointer a => cases a <;> simp [okNil] at h1 ⊢
  | func f => cases f <;> simp [okNil] at h1 ⊢
  | _ => simp [okNil] at h1 ⊢
theorem run_isAgg_sc {t : TypeId} (h : isSc P t = true) : (isAgg t).run P w = .ok false w := by
  unfold isSc at h
  cases hu : P.underlying t with
  | none => simp [hu] at h
  | some x => cases x <;> simp [hu] at h <;> simp [isAgg, underlying, hu]
theorem run_isAgg_ag {t : TypeId} {n : Nat} (h : isAg P t n = true) : (isAgg t).run P w = .ok true w := by
  unfold isAg at h
  cases hu : P.underlying t with
  | none => simp [hu] at h
  | some x => cases x <;> simp [hu] at h <;> simp [isAgg, underlying, hu]
theorem run_sizeOf_ag {t : TypeId} {n : Nat} (h : isAg P t n = true) : (sizeOf t).run P w = .ok n w := by
  unfold isAg at h
  cases hu : P.info? t with
  | none => simp [hu] at h
  | some i => simp [hu] at h; simp [sizeOf, typeInfo, hu, h.2]
theorem run_sizeOf_one {t : TypeId} (h : isOne P t = true) : (sizeOf t).run P w = .ok 1 w := by
  unfold isOne at h
  cases hu : P.info? t with
  | none => simp [hu] at h
  | some i => simp [hu] at h; simp [sizeOf, typeInfo, hu, h]
theorem P_ld {t : TypeId} {x : Operand} (ht : isSc P t = true) (h : ld (opv N ρ x) K w Qm) (c : ∀ v w', K v w' Qm → next (act N (upd ρ d v)) w') : Oper.wp P ⟨some d, .load t x, ty, pos, aft, g⟩ (act N ρ) w next Qx := by
  obtain ⟨a, v, hx, hv, hk⟩ := h
  refine wp_run ?_ (c _ _ hk)
  simp [execOp, hx, Instr.loadAt, Instr.sureAddr, loadVar, run_isAgg_sc ht, hv]
theorem run_loadCellsFrom_rds {a : Addr} {cs : Array Value} (h : rds w a cs) : ∀ (n i : Nat) (acc : Array Value), i + n = cs.size → (loadCellsFrom a i n acc).run P w = .ok (acc ++ cs.extract i cs.size) w := by
  intro n
  induction n with
  | zero => intro i acc hi; simp only [loadCellsFrom, Sem.run_pure]; congr 1; apply Array.ext' ; simp; omega
  | succ n ih =>
    intro i acc hi
    have hlt : i < cs.size := by omega
    have hv := h i cs[i] (by simp [hlt])
    simp only [loadCellsFrom, Sem.run_bind, run_load, hv, Result.andThen_ok]
    rw [ih (i + 1) _ (by omega)]
    congr 1
    apply Array.ext'
    simp only [Array.toList_append, Array.toList_push, Array.toList_extract, List.append_assoc]
    congr 1
    rw [List.extract_eq_take_drop, List.extract_eq_take_drop]
    have : List.drop i cs.toList = cs[i] :: List.drop (i + 1) cs.toList := by
      rw [List.drop_eq_getElem_cons (by simpa using hlt)]; simp
    rw [this, show cs.size - i = (cs.size - (i + 1)) + 1 from by omega]
    simp
theorem P_ldn {t : TypeId} {n : Nat} {x : Operand} (ht : isAg P t n = true) (h : ldn n (opv N ρ x) K w Qm) (c : ∀ v w', K v w' Qm → next (act N (upd ρ d v)) w') : Oper.wp P ⟨some d, .load t x, ty, pos, aft, g⟩ (act N ρ) w next Qx := by
  obtain ⟨a, cs, hx, hn, hv, hk⟩ := h
  refine wp_run ?_ (c _ _ hk)
  have := run_loadCellsFrom_rds (P := P) hv n 0 #[] (by omega)
  simp [execOp, hx, Instr.loadAt, Instr.sureAddr, loadVar, run_isAgg_ag ht, run_sizeOf_ag ht, loadCells, this]
theorem P_st {t : TypeId} {x v : Operand} (ht : isOne P t = true) (h : st (opv N ρ x) (opv N ρ v) K0 w Qm) (c : ∀ w', K0 w' Qm → next (act N ρ) w') : Oper.wp P ⟨none, .store t x v, ty, pos, aft, g⟩ (act N ρ) w next Qx := by
  obtain ⟨a, hx, hc, hf, ho, hk⟩ := h
  refine wp_run0 ?_ (c _ hk)
  have hcells : (opv N ρ v).cells = #[opv N ρ v] := by revert ho; generalize opv N ρ v = y; cases y <;> simp [Value.cells, Value.oneCell']
  obtain ⟨u, hu⟩ := Option.isSome_iff_exists.1 hc
  have := run_store P w a (opv N ρ v) .plain ho
  have h0 : a.add 0 = a := rfl
  simp [execOp, hx, Instr.storeAt, Instr.sureAddr, storeVar, hcells, run_sizeOf_one ht, storeCells, h0, this, hu, hf]
theorem run_storeCells_sts : ∀ (l : List Value) (w w' : World) (a : Addr) (i : Nat), sts w a l i = some w' → (storeCells a l i).run P w = .ok () w' := by
  intro l
  induction l with
  | nil => intro w w' a i h; simp [sts] at h; subst h; simp [storeCells]
  | cons v l ih =>
    intro w w' a i h
    simp only [sts] at h
    split at h
    · rename_i hc
      simp only [Bool.and_eq_true, Bool.not_eq_true'] at hc
      obtain ⟨⟨h1, h2⟩, h3⟩ := hc
      obtain ⟨u, hu⟩ := Option.isSome_iff_exists.1 h1
      have := run_store P w (a.add i) v .plain h3
      simp only [storeCells, Sem.run_bind, this, hu, h2, Bool.false_eq_true, if_false, Result.andThen_ok]
      exact ih _ _ _ _ h
    · cases h
theorem P_stn {t : TypeId} {n : Nat} {x v : Operand} (ht : isAg P t n = true) (h : stn n (opv N ρ x) (opv N ρ v) K0 w Qm) (c : ∀ w', K0 w' Qm → next (act N ρ) w') : Oper.wp P ⟨none, .store t x v, ty, pos, aft, g⟩ (act N ρ) w next Qx := by
  obtain ⟨a, cs, w', hx, hv, hn, hs, hk⟩ := h
  refine wp_run0 ?_ (c _ hk)
  have := run_storeCells_sts (P := P) _ _ _ _ _ hs
  simp [execOp, hx, hv, Instr.storeAt, Instr.sureAddr, storeVar, Value.cells, run_sizeOf_ag ht, hn, this]
theorem P_fa {s f k : Nat} {x : Operand} (ht : fOff P s f k = true) (h : fa k (opv N ρ x) K w Qm) (c : ∀ v w', K v w' Qm → next (act N (upd ρ d v)) w') : Oper.wp P ⟨some d, .fieldAddr s x f, ty, pos, aft, g⟩ (act N ρ) w next Qx := by
  obtain ⟨a, hx, hk⟩ := h
  refine wp_run ?_ (c _ _ hk)
  unfold fOff at ht
  split at ht
  · rename_i fs hu
    split at ht
    · rename_i fd hfd
      simp only [Bool.and_eq_true, beq_iff_eq] at ht
      obtain ⟨h1, h2⟩ := ht
      split at h2
      · rename_i i hi
        have hs : (sizeOf fd.type).run P w = .ok i.size w := by simp [sizeOf, typeInfo, hi]
        have h2' : ¬ i.size = 0 := by simpa using h2
        simp [execOp, hx, Instr.fieldAt, underlying, hu, hfd, Instr.sureAddr, fieldPlace, hs, h2', h1]
      · cases h2
    · cases ht
  · cases ht
theorem P_ad {k : IntKind} {t t2 : TypeId} {x y : Operand} (h : ad k (opv N ρ x) (opv N ρ y) K w Qm) (c : ∀ v w', K v w' Qm → next (act N (upd ρ d v)) w') : Oper.wp P ⟨some d, .binOp .add t x y t2, ty, pos, aft, g⟩ (act N ρ) w next Qx := by
  obtain ⟨a, b, hx, hy, hk⟩ := h
  exact wp_run (by simp [execOp, hx, hy, eqGuard, binOp, Op.intArith]) (c _ _ hk)
theorem P_su {k : IntKind} {t t2 : TypeId} {x y : Operand} (h : su k (opv N ρ x) (opv N ρ y) K w Qm) (c : ∀ v w', K v w' Qm → next (act N (upd ρ d v)) w') : Oper.wp P ⟨some d, .binOp .sub t x y t2, ty, pos, aft, g⟩ (act N ρ) w next Qx := by
  obtain ⟨a, b, hx, hy, hk⟩ := h
  exact wp_run (by simp [execOp, hx, hy, eqGuard, binOp, Op.intArith]) (c _ _ hk)
theorem P_mu {k : IntKind} {t t2 : TypeId} {x y : Operand} (h : mu k (opv N ρ x) (opv N ρ y) K w Qm) (c : ∀ v w', K v w' Qm → next (act N (upd ρ d v)) w') : Oper.wp P ⟨some d, .binOp .mul t x y t2, ty, pos, aft, g⟩ (act N ρ) w next Qx := by
  obtain ⟨a, b, hx, hy, hk⟩ := h
  exact wp_run (by simp [execOp, hx, hy, eqGuard, binOp, Op.intArith]) (c _ _ hk)
theorem P_qu {k : IntKind} {t t2 : TypeId} {x y : Operand} (h : qu k (opv N ρ x) (opv N ρ y) K w Qm) (c : ∀ v w', K v w' Qm → next (act N (upd ρ d v)) w') : Oper.wp P ⟨some d, .binOp .quo t x y t2, ty, pos, aft, g⟩ (act N ρ) w next Qx := by
  obtain ⟨a, b, hx, hy, hb, hk⟩ := h
  exact wp_run (by simp [execOp, hx, hy, eqGuard, binOp, Op.intDiv, hb]) (c _ _ hk)
theorem P_re {k : IntKind} {t t2 : TypeId} {x y : Operand} (h : re k (opv N ρ x) (opv N ρ y) K w Qm) (c : ∀ v w', K v w' Qm → next (act N (upd ρ d v)) w') : Oper.wp P ⟨some d, .binOp .rem t x y t2, ty, pos, aft, g⟩ (act N ρ) w next Qx := by
  obtain ⟨a, b, hx, hy, hb, hk⟩ := h
  exact wp_run (by simp [execOp, hx, hy, eqGuard, binOp, Op.intDiv, hb]) (c _ _ hk)
theorem P_lt {k : IntKind} {t t2 : TypeId} {x y : Operand} (h : lt k (opv N ρ x) (opv N ρ y) K w Qm) (c : ∀ v w', K v w' Qm → next (act N (upd ρ d v)) w') : Oper.wp P ⟨some d, .binOp .lss t x y t2, ty, pos, aft, g⟩ (act N ρ) w next Qx := by
  obtain ⟨a, b, hx, hy, hk⟩ := h
  exact wp_run (by simp [execOp, hx, hy, eqGuard, binOp, Op.intCmp]) (c _ _ hk)
theorem P_le {k : IntKind} {t t2 : TypeId} {x y : Operand} (h : le k (opv N ρ x) (opv N ρ y) K w Qm) (c : ∀ v w', K v w' Qm → next (act N (upd ρ d v)) w') : Oper.wp P ⟨some d, .binOp .leq t x y t2, ty, pos, aft, g⟩ (act N ρ) w next Qx := by
  obtain ⟨a, b, hx, hy, hk⟩ := h
  exact wp_run (by simp [execOp, hx, hy, eqGuard, binOp, Op.intCmp]) (c _ _ hk)
theorem P_gt {k : IntKind} {t t2 : TypeId} {x y : Operand} (h : gt k (opv N ρ x) (opv N ρ y) K w Qm) (c : ∀ v w', K v w' Qm → next (act N (upd ρ d v)) w') : Oper.wp P ⟨some d, .binOp .gtr t x y t2, ty, pos, aft, g⟩ (act N ρ) w next Qx := by
  obtain ⟨a, b, hx, hy, hk⟩ := h
  exact wp_run (by simp [execOp, hx, hy, eqGuard, binOp, Op.intCmp, GT.gt]) (c _ _ hk)
theorem P_ge {k : IntKind} {t t2 : TypeId} {x y : Operand} (h : ge k (opv N ρ x) (opv N ρ y) K w Qm) (c : ∀ v w', K v w' Qm → next (act N (upd ρ d v)) w') : Oper.wp P ⟨some d, .binOp .geq t x y t2, ty, pos, aft, g⟩ (act N ρ) w next Qx := by
  obtain ⟨a, b, hx, hy, hk⟩ := h
  exact wp_run (by simp [execOp, hx, hy, eqGuard, binOp, Op.intCmp, GE.ge]) (c _ _ hk)
theorem P_eqi {k : IntKind} {t t2 : TypeId} {x y : Operand} (h : eqi k (opv N ρ x) (opv N ρ y) K w Qm) (c : ∀ v w', K v w' Qm → next (act N (upd ρ d v)) w') : Oper.wp P ⟨some d, .binOp .eql t x y t2, ty, pos, aft, g⟩ (act N ρ) w next Qx := by
  obtain ⟨a, b, hx, hy, hk⟩ := h
  refine wp_run ?_ (c _ _ hk)
  simp [execOp, hx, hy, eqGuard, binOp, Op.intCmp]
  rfl
theorem P_nei {k : IntKind} {t t2 : TypeId} {x y : Operand} (h : nei k (opv N ρ x) (opv N ρ y) K w Qm) (c : ∀ v w', K v w' Qm → next (act N (upd ρ d v)) w') : Oper.wp P ⟨some d, .binOp .neq t x y t2, ty, pos, aft, g⟩ (act N ρ) w next Qx := by
  obtain ⟨a, b, hx, hy, hk⟩ := h
  refine wp_run ?_ (c _ _ hk)
  have e : (a != b) = decide (a ≠ b) := by by_cases h : a = b <;> simp [h]
  simp [execOp, hx, hy, eqGuard, binOp, Op.intCmp]
  rw [e]; simp
end
end Sh
end Go.Proofs.YtongpnolikkknaaGreatDoor

namespace Go.Proofs.YtongpnolikkknaaGreatDoor
namespace Sh
section
variable {P : Program} {N : Nat} {ρ : Nat → Value} {w : World} {d : Nat} {ty : TypeId} {pos : String} {aft : Array Edge} {g : Option (Nat × Bool)}
  {next : Act → World → Prop} {Qx : Exit → Act → World → Prop} {Qm : Value → World → Prop} {K : Value → M} {K0 : M}

theorem P_bits {k : IntKind} {op : BinOp} {t t2 : TypeId} {x y : Operand} (ho : (match op with | .and | .or | .xor | .andNot => true | _ => false) = true) (h : bws op k (opv N ρ x) (opv N ρ y) K w Qm) (c : ∀ v w', K v w' Qm → next (act N (upd ρ d v)) w') : Oper.wp P ⟨some d, .binOp op t x y t2, ty, pos, aft, g⟩ (act N ρ) w next Qx := by
  obtain ⟨a, b, v, hx, hy, hv, hk⟩ := h
  refine wp_run ?_ (c _ _ hk)
  have := hv P w
  cases op <;> simp at ho <;> simp [execOp, hx, hy, eqGuard, binOp, this]
theorem P_shl {k j : IntKind} {t t2 : TypeId} {x y : Operand} (h : shl k j (opv N ρ x) (opv N ρ y) K w Qm) (c : ∀ v w', K v w' Qm → next (act N (upd ρ d v)) w') : Oper.wp P ⟨some d, .binOp .shl t x y t2, ty, pos, aft, g⟩ (act N ρ) w next Qx := by
  obtain ⟨a, b, hx, hy, hb, hk⟩ := h
  refine wp_run ?_ (c _ _ hk)
  simp [execOp, hx, hy, eqGuard, binOp, Op.shift, show ¬ b < 0 from by omega]
theorem P_shr {k j : IntKind} {t t2 : TypeId} {x y : Operand} (h : shr k j (opv N ρ x) (opv N ρ y) K w Qm) (c : ∀ v w', K v w' Qm → next (act N (upd ρ d v)) w') : Oper.wp P ⟨some d, .binOp .shr t x y t2, ty, pos, aft, g⟩ (act N ρ) w next Qx := by
  obtain ⟨a, b, hx, hy, hb, hk⟩ := h
  refine wp_run ?_ (c _ _ hk)
  simp [execOp, hx, hy, eqGuard, binOp, Op.shift, show ¬ b < 0 from by omega]
theorem toList_eq (a b : ByteArray) : (a.toList == b.toList) = decide (a = b) := by
  have : a.toList = b.toList ↔ a = b := by
    constructor
    · intro h
      simp only [ByteArray.toList_eq] at h
      cases a; cases b; simp_all
    · intro h; rw [h]
  by_cases h : a = b
  · simp [h]
  · simp only [h, decide_false]; rw [beq_eq_false_iff_ne]; exact fun e => h (this.1 e)
theorem P_cat {t t2 : TypeId} {x y : Operand} (h : cat (opv N ρ x) (opv N ρ y) K w Qm) (c : ∀ v w', K v w' Qm → next (act N (upd ρ d v)) w') : Oper.wp P ⟨some d, .binOp .add t x y t2, ty, pos, aft, g⟩ (act N ρ) w next Qx := by
  obtain ⟨a, b, hx, hy, hn, hk⟩ := h
  refine wp_run ?_ (c _ _ hk)
  have : ¬ (((a.size + b.size : Nat) : Int) > IntKind.i64.max) := by
    have e : IntKind.i64.max = 9223372036854775807 := by decide
    rw [e]; omega
  simp only [execOp, hx, hy, eqGuard, binOp, Op.stringOp, if_neg this]
  simp
theorem P_eqs {t t2 : TypeId} {x y : Operand} (h : eqs (opv N ρ x) (opv N ρ y) K w Qm) (c : ∀ v w', K v w' Qm → next (act N (upd ρ d v)) w') : Oper.wp P ⟨some d, .binOp .eql t x y t2, ty, pos, aft, g⟩ (act N ρ) w next Qx := by
  obtain ⟨a, b, hx, hy, hk⟩ := h
  refine wp_run ?_ (c _ _ hk)
  simp only [execOp, hx, hy, eqGuard, binOp, Op.stringOp, toList_eq]
  simp
theorem P_nes {t t2 : TypeId} {x y : Operand} (h : nes (opv N ρ x) (opv N ρ y) K w Qm) (c : ∀ v w', K v w' Qm → next (act N (upd ρ d v)) w') : Oper.wp P ⟨some d, .binOp .neq t x y t2, ty, pos, aft, g⟩ (act N ρ) w next Qx := by
  obtain ⟨a, b, hx, hy, hk⟩ := h
  refine wp_run ?_ (c _ _ hk)
  simp only [execOp, hx, hy, eqGuard, binOp, Op.stringOp, toList_eq]
  simp
theorem P_nt {t : TypeId} {x : Operand} (h : nt (opv N ρ x) K w Qm) (c : ∀ v w', K v w' Qm → next (act N (upd ρ d v)) w') : Oper.wp P ⟨some d, .unOp .not t x, ty, pos, aft, g⟩ (act N ρ) w next Qx := by
  obtain ⟨a, hx, hk⟩ := h
  exact wp_run (by simp [execOp, hx, Op.unary]) (c _ _ hk)
theorem P_pk {x y z : Operand} (h : pk (opv N ρ x) (opv N ρ y) (opv N ρ z) K w Qm) (c : ∀ v w', K v w' Qm → next (act N (upd ρ d v)) w') : Oper.wp P ⟨some d, .pick x y z, ty, pos, aft, g⟩ (act N ρ) w next Qx := by
  obtain ⟨b, hx, hk⟩ := h
  refine wp_run ?_ (c _ _ hk)
  cases b <;> simp [execOp, hx, asBool]
theorem P_cv {k : IntKind} {s t : TypeId} {x : Operand} (hs : (match P.underlying s with | some (.int _) => true | _ => false) = true) (ht : isInt P t k = true) (h : cv k (opv N ρ x) K w Qm) (c : ∀ v w', K v w' Qm → next (act N (upd ρ d v)) w') : Oper.wp P ⟨some d, .convert s t x, ty, pos, aft, g⟩ (act N ρ) w next Qx := by
  obtain ⟨j, a, hx, hk⟩ := h
  refine wp_run ?_ (c _ _ hk)
  unfold isInt at ht
  cases hu : P.underlying t with
  | none => simp [hu] at ht
  | some u =>
    cases u <;> simp [hu] at ht
    cases hv : P.underlying s with
    | none => simp [hv] at hs
    | some u' =>
      cases u' <;> simp [hv] at hs
      subst ht
      simp [execOp, hx, convert, underlying, hu, hv, Conv.intToInt]
theorem P_al {t : TypeId} {z : Value} {cs : Array Value} (hz : zeroIs P t z) (hc : z.cells = cs) (h : al t cs K w Qm) (c : ∀ v w', K v w' Qm → next (act N (upd ρ d v)) w') : Oper.wp P ⟨some d, .alloc t, ty, pos, aft, g⟩ (act N ρ) w next Qx := by
  refine wp_run ?_ (c _ _ h)
  unfold zeroIs at hz
  cases hu : P.info? t with
  | none => simp [hu] at hz
  | some i =>
    simp [hu] at hz
    simp [execOp, Instr.alloc, zeroValue, typeInfo, hu, hz, newVar, newRow, hc, psh]
theorem P_bx {t : TypeId} {x : Operand} (h : bx t (opv N ρ x) K w Qm) (c : ∀ v w', K v w' Qm → next (act N (upd ρ d v)) w') : Oper.wp P ⟨some d, .box t x, ty, pos, aft, g⟩ (act N ρ) w next Qx := by
  refine wp_run ?_ (c _ _ h)
  simp [execOp, Instr.box, newVar, newRow, psh]
theorem P_ex {i : Nat} {x : Operand} (h : ex i (opv N ρ x) K w Qm) (c : ∀ v w', K v w' Qm → next (act N (upd ρ d v)) w') : Oper.wp P ⟨some d, .extract x i, ty, pos, aft, g⟩ (act N ρ) w next Qx := by
  obtain ⟨vs, v, hx, hv, hk⟩ := h
  exact wp_run (by simp [execOp, hx, Instr.extract, hv]) (c _ _ hk)
theorem P_lnl {t : TypeId} {x : Operand} (ht : isSl P t = true) (h : lnl (opv N ρ x) K w Qm) (c : ∀ v w', K v w' Qm → next (act N (upd ρ d v)) w') : Oper.wp P ⟨some d, .call ⟨.builtin .len, #[x], #[t]⟩, ty, pos, aft, g⟩ (act N ρ) w next Qx := by
  obtain ⟨a, l, cp, hx, hk⟩ := h
  refine wp_run ?_ (c _ _ hk)
  unfold isSl at ht
  cases hu : P.underlying t with
  | none => simp [hu] at ht
  | some u =>
    cases u <;> simp [hu] at ht
    simp [execOp, hx, resolve, invoke, builtin, Builtin.len_, underlying, hu, goInt]
theorem P_lns {t : TypeId} {x : Operand} (ht : isStr P t = true) (h : lns (opv N ρ x) K w Qm) (c : ∀ v w', K v w' Qm → next (act N (upd ρ d v)) w') : Oper.wp P ⟨some d, .call ⟨.builtin .len, #[x], #[t]⟩, ty, pos, aft, g⟩ (act N ρ) w next Qx := by
  obtain ⟨s, hx, hk⟩ := h
  refine wp_run ?_ (c _ _ hk)
  unfold isStr at ht
  cases hu : P.underlying t with
  | none => simp [hu] at ht
  | some u =>
    cases u <;> simp [hu] at ht
    simp [execOp, hx, resolve, invoke, builtin, Builtin.len_, underlying, hu, goInt]
theorem P_mnm {t : TypeId} {x y : Operand} {ts : Array TypeId} (h : mnm (opv N ρ x) (opv N ρ y) K w Qm) (c : ∀ v w', K v w' Qm → next (act N (upd ρ d v)) w') : Oper.wp P ⟨some d, .call ⟨.builtin .min, #[x, y], ts⟩, ty, pos, aft, g⟩ (act N ρ) w next Qx := by
  obtain ⟨k, a, b, hx, hy, hk⟩ := h
  refine wp_run ?_ (c _ _ hk)
  simp [execOp, hx, hy, resolve, invoke, builtin, Builtin.min_, Builtin.min2]
theorem P_mxm {t : TypeId} {x y : Operand} {ts : Array TypeId} (h : mxm (opv N ρ x) (opv N ρ y) K w Qm) (c : ∀ v w', K v w' Qm → next (act N (upd ρ d v)) w') : Oper.wp P ⟨some d, .call ⟨.builtin .max, #[x, y], ts⟩, ty, pos, aft, g⟩ (act N ρ) w next Qx := by
  obtain ⟨k, a, b, hx, hy, hk⟩ := h
  refine wp_run ?_ (c _ _ hk)
  simp [execOp, hx, hy, resolve, invoke, builtin, Builtin.max_, Builtin.max2]
theorem P_ia {t : TypeId} {n : Nat} {x y : Operand} (ht : slE P t n = true) (h : ia n (opv N ρ x) (opv N ρ y) K w Qm) (c : ∀ v w', K v w' Qm → next (act N (upd ρ d v)) w') : Oper.wp P ⟨some d, .indexAddr t x y, ty, pos, aft, g⟩ (act N ρ) w next Qx := by
  obtain ⟨a, l, cp, k, j, hx, hy, h0, hl, hk⟩ := h
  refine wp_run ?_ (c _ _ hk)
  unfold slE at ht
  cases hu : P.underlying t with
  | none => simp [hu] at ht
  | some u =>
    cases u <;> simp [hu] at ht
    obtain ⟨i, hi, hs⟩ := ht
    simp [execOp, hx, hy, Instr.indexAt, asIntOf, underlying, hu, sizeOf, typeInfo, hi, hs, h0, hl]
theorem P_ixs {t : TypeId} {x y : Operand} (ht : isStr P t = true) (h : ixs (opv N ρ x) (opv N ρ y) K w Qm) (c : ∀ v w', K v w' Qm → next (act N (upd ρ d v)) w') : Oper.wp P ⟨some d, .index t x y, ty, pos, aft, g⟩ (act N ρ) w next Qx := by
  obtain ⟨s, k, j, b, hx, hy, h0, hb, hk⟩ := h
  refine wp_run ?_ (c _ _ hk)
  unfold isStr at ht
  cases hu : P.underlying t with
  | none => simp [hu] at ht
  | some u =>
    cases u <;> simp [hu] at ht
    simp [execOp, hx, hy, Instr.index, asIntOf, underlying, hu, h0, hb]
theorem run_bound {o : Option Value} {dflt m l : Nat} {v : Value} {code : BoundsCode} (h : bnd o dflt m l) (ho : o = some v) : (Instr.sliceBound v m code).run P w = .ok l w := by
  subst ho
  obtain ⟨k, j, rfl, h0, h1, rfl⟩ := h
  simp [Instr.sliceBound, asIntOf, h0, h1]
theorem P_sls {t : TypeId} {x : Operand} {lo hi : Option Operand} (ht : isStr P t = true) (h : sls (opv N ρ x) (lo.map (opv N ρ)) (hi.map (opv N ρ)) K w Qm) (c : ∀ v w', K v w' Qm → next (act N (upd ρ d v)) w') : Oper.wp P ⟨some d, .slice t x lo hi none, ty, pos, aft, g⟩ (act N ρ) w next Qx := by
  obtain ⟨s, l, hh, hx, h1, h2, hk⟩ := h
  refine wp_run ?_ (c _ _ hk)
  unfold isStr at ht
  cases hu : P.underlying t with
  | none => simp [hu] at ht
  | some u =>
    cases u <;> simp [hu] at ht
    cases lo with
    | none =>
      simp only [Option.map_none] at h2
      have h2' : l = 0 := h2
      subst h2'
      cases hi with
      | none => have h1' : hh = s.size := h1; subst h1'; simp [execOp, hx, Instr.sliceAt, Instr.slice, underlying, hu, Instr.sliceBounds]
      | some y => have := run_bound (P := P) (w := w) (code := .sliceAlen) h1 rfl; simp [execOp, hx, Instr.sliceAt, Instr.slice, underlying, hu, Instr.sliceBounds, this]
    | some z =>
      have h2' := run_bound (P := P) (w := w) (code := .sliceB) h2 rfl
      cases hi with
      | none => have h1' : hh = s.size := h1; subst h1'; simp [execOp, hx, Instr.sliceAt, Instr.slice, underlying, hu, Instr.sliceBounds, h2']
      | some y => have := run_bound (P := P) (w := w) (code := .sliceAlen) h1 rfl; simp [execOp, hx, Instr.sliceAt, Instr.slice, underlying, hu, Instr.sliceBounds, this, h2']
theorem P_sll {t : TypeId} {n : Nat} {x : Operand} {lo hi : Option Operand} (ht : slE P t n = true) (h : sll n (opv N ρ x) (lo.map (opv N ρ)) (hi.map (opv N ρ)) K w Qm) (c : ∀ v w', K v w' Qm → next (act N (upd ρ d v)) w') : Oper.wp P ⟨some d, .slice t x lo hi none, ty, pos, aft, g⟩ (act N ρ) w next Qx := by
  obtain ⟨a, len, cap, l, hh, hx, h1, h2, hk⟩ := h
  refine wp_run ?_ (c _ _ hk)
  unfold slE at ht
  cases hu : P.underlying t with
  | none => simp [hu] at ht
  | some u =>
    cases u <;> simp [hu] at ht
    obtain ⟨i, hi', hs⟩ := ht
    cases lo with
    | none =>
      have h2' : l = 0 := h2
      subst h2'
      cases hi with
      | none => have h1' : hh = len := h1; subst h1'; simp [execOp, hx, Instr.sliceAt, Instr.slice, underlying, hu, Instr.sliceBounds, sizeOf, typeInfo, hi', hs]
      | some y => have := run_bound (P := P) (w := w) (code := .sliceAcap) h1 rfl; simp [execOp, hx, Instr.sliceAt, Instr.slice, underlying, hu, Instr.sliceBounds, this, sizeOf, typeInfo, hi', hs]
    | some z =>
      have h2' := run_bound (P := P) (w := w) (code := .sliceB) h2 rfl
      cases hi with
      | none => have h1' : hh = len := h1; subst h1'; simp [execOp, hx, Instr.sliceAt, Instr.slice, underlying, hu, Instr.sliceBounds, h2', sizeOf, typeInfo, hi', hs]
      | some y => have := run_bound (P := P) (w := w) (code := .sliceAcap) h1 rfl; simp [execOp, hx, Instr.sliceAt, Instr.slice, underlying, hu, Instr.sliceBounds, this, h2', sizeOf, typeInfo, hi', hs]
theorem P_sla {t : TypeId} {len n : Nat} {x : Operand} {lo hi : Option Operand} (ht : arE P t len n = true) (h : sla len n (opv N ρ x) (lo.map (opv N ρ)) (hi.map (opv N ρ)) K w Qm) (c : ∀ v w', K v w' Qm → next (act N (upd ρ d v)) w') : Oper.wp P ⟨some d, .slice t x lo hi none, ty, pos, aft, g⟩ (act N ρ) w next Qx := by
  obtain ⟨a, l, hh, hx, h1, h2, hk⟩ := h
  refine wp_run ?_ (c _ _ hk)
  unfold arE at ht
  cases hu : P.underlying t with
  | none => simp [hu] at ht
  | some u =>
    cases u <;> simp [hu] at ht
    obtain ⟨h3, i, hi', hs⟩ := ht
    subst h3
    cases lo with
    | none =>
      have h2' : l = 0 := h2
      subst h2'
      cases hi with
      | none => have h1' := h1; simp only [Option.map_none, bnd] at h1'; subst h1'; simp [execOp, hx, Instr.sliceAt, Instr.sureAddr, underlying, hu, Instr.sliceBounds, sizeOf, typeInfo, hi', hs]
      | some y => have := run_bound (P := P) (w := w) (code := .sliceAlen) h1 rfl; simp [execOp, hx, Instr.sliceAt, Instr.sureAddr, underlying, hu, Instr.sliceBounds, this, sizeOf, typeInfo, hi', hs]
    | some z =>
      have h2' := run_bound (P := P) (w := w) (code := .sliceB) h2 rfl
      cases hi with
      | none => have h1' := h1; simp only [Option.map_none, bnd] at h1'; subst h1'; simp [execOp, hx, Instr.sliceAt, Instr.sureAddr, underlying, hu, Instr.sliceBounds, h2', sizeOf, typeInfo, hi', hs]
      | some y => have := run_bound (P := P) (w := w) (code := .sliceAlen) h1 rfl; simp [execOp, hx, Instr.sliceAt, Instr.sureAddr, underlying, hu, Instr.sliceBounds, this, h2', sizeOf, typeInfo, hi', hs]
theorem P_mf {fn : Fn} {first cap : Array Operand} (h : idv (.func fn (first.map (opv N ρ)) (cap.map (opv N ρ))) K w Qm) (c : ∀ v w', K v w' Qm → next (act N (upd ρ d v)) w') : Oper.wp P ⟨some d, .makeFunc fn first cap, ty, pos, aft, g⟩ (act N ρ) w next Qx :=
  wp_run (by simp [execOp, Instr.makeFunc]) (c _ _ h)
theorem P_mm {t : TypeId} (h : mm K w Qm) (c : ∀ v w', K v w' Qm → next (act N (upd ρ d v)) w') : Oper.wp P ⟨some d, .makeMap t none, ty, pos, aft, g⟩ (act N ρ) w next Qx :=
  wp_run (by simp [execOp, Instr.makeMap, psh]) (c _ _ h)
/-- Whatever operation yields a value: by its own run. -/
theorem P_sm {op : Op} {s : Sem Value} (he : execOp (opv N ρ) ⟨some d, op, ty, pos, aft, g⟩ = (do pure (.value (← s)))) (h : sm P s K w Qm) (c : ∀ v w', K v w' Qm → next (act N (upd ρ d v)) w') : Oper.wp P ⟨some d, op, ty, pos, aft, g⟩ (act N ρ) w next Qx := by
  obtain ⟨v, w', hr, hk⟩ := h
  exact wp_run (by rw [he]; simp [hr]) (c _ _ hk)
theorem P_smn {op : Op} {s : Sem Value} (he : execOp (opv N ρ) ⟨none, op, ty, pos, aft, g⟩ = (do pure (.value (← s)))) (h : sm P s (fun _ => K0) w Qm) (c : ∀ w', K0 w' Qm → next (act N ρ) w') : Oper.wp P ⟨none, op, ty, pos, aft, g⟩ (act N ρ) w next Qx := by
  obtain ⟨v, w', hr, hk⟩ := h
  exact wp_runv (v := v) (by rw [he]; simp [hr]) (c _ hk)
theorem P_smu {op : Op} {s : Sem Unit} (he : execOp (opv N ρ) ⟨none, op, ty, pos, aft, g⟩ = (do s; pure .skip)) (h : smu P s K0 w Qm) (c : ∀ w', K0 w' Qm → next (act N ρ) w') : Oper.wp P ⟨none, op, ty, pos, aft, g⟩ (act N ρ) w next Qx := by
  obtain ⟨w', hr, hk⟩ := h
  exact wp_run0 (by rw [he]; simp [hr]) (c _ hk)
/-! calls -/
theorem P_cc {fn : Func} {b : Code} {f : FuncId} {xs : Array Operand} {ts : Array TypeId} (hf : P.funcs[f]? = some fn) (hb : fn.body = some b) (hn : (fn.name == "runtime.NumGoroutine") = false)
    (h : cc P f (xs.map (opv N ρ)) K w Qm) (c : ∀ v w', K v w' Qm → next (act N (upd ρ d v)) w') : Oper.wp P ⟨some d, .call ⟨.value (.func f), xs, ts⟩, ty, pos, aft, g⟩ (act N ρ) w next Qx := by
  have hr : (execOp (act N ρ).eval ⟨some d, .call ⟨.value (.func f), xs, ts⟩, ty, pos, aft, g⟩).run P w = .ok (.enter f (xs.map (opv N ρ))) w := by
    have hn' : ¬ fn.name = "runtime.NumGoroutine" := by simpa using hn
    simp [eval_act, execOp, resolve, opv, Deferred.ofValue, invoke, callFunc, hf, hb, hn']
  simp only [Oper.wp, hr, Oper.upon]
  exact Calls.mono h fun e w' he => by
    cases e with
    | returned v => simp only [put_act]; exact c _ _ he
    | panicked ch => exact he.elim
    | outgrown => exact he.elim
theorem P_cl {fn : Func} {b : Code} {f : FuncId} {F : M} {xs : Array Operand} {ts : Array TypeId} (hf : P.funcs[f]? = some fn) (hb : fn.body = some b) (hn : (fn.name == "runtime.NumGoroutine") = false)
    (hs : ∀ w Q, F w Q → Calls P f (xs.map (opv N ρ)) w (Rt Q))
    (h : cl F K w Qm) (c : ∀ v w', K v w' Qm → next (act N (upd ρ d v)) w') : Oper.wp P ⟨some d, .call ⟨.value (.func f), xs, ts⟩, ty, pos, aft, g⟩ (act N ρ) w next Qx :=
  P_cc hf hb hn (hs _ _ h) c
theorem P_cf {x : Operand} {xs : Array Operand} {ts : Array TypeId}
    (h : cf P (opv N ρ x) (xs.map (opv N ρ)) K w Qm) (c : ∀ v w', K v w' Qm → next (act N (upd ρ d v)) w') : Oper.wp P ⟨some d, .call ⟨.value x, xs, ts⟩, ty, pos, aft, g⟩ (act N ρ) w next Qx := by
  obtain ⟨f, z, cap, hx, hr, hk⟩ := h
  have hr : (execOp (act N ρ).eval ⟨some d, .call ⟨.value x, xs, ts⟩, ty, pos, aft, g⟩).run P w = .ok (.enter f (z ++ xs.map (opv N ρ) ++ cap)) w := by
    simp only [eval_act, execOp, resolve, hx, Deferred.ofValue, invoke, pure_bind, hr]
  simp only [Oper.wp, hr, Oper.upon]
  exact Calls.mono hk fun e w' he => by
    cases e with
    | returned v => simp only [put_act]; exact c _ _ he
    | panicked ch => exact he.elim
    | outgrown => exact he.elim
theorem C_cnd {x : Operand} {A B : Code} {Am Bm : M} (h : cnd (opv N ρ x) Am Bm w Qm) (ha : Am w Qm → A.wp P Qx (act N ρ) w) (hb : Bm w Qm → B.wp P Qx (act N ρ) w) : (Code.cond x A B).wp P Qx (act N ρ) w := by
  obtain ⟨b, hx, hk⟩ := h
  cases b with
  | true => exact wp_cond_true (by rw [eval_act]; exact hx) (ha hk)
  | false => exact wp_cond_false (by rw [eval_act]; exact hx) (hb hk)
theorem C_loop {c : Code} (I : Nat → Act → World → Prop) {a : Act} {n : Nat} (h0 : I n a w)
    (round : ∀ n a w, I n a w → c.wp P (Exit.then (fun a' w' => ∃ m, m < n ∧ I m a' w') Qx) a w) : (Code.loop c).wp P Qx a w := by
  intro b k cs
  have key : ∀ n a w, I n a w → ∃ e a' w', Qx e a' w' ∧ Arrives P (lone (b.at a (.code c :: .inLoop c :: k)) cs w) b k cs e a' w' := by
    intro n
    induction n using Nat.strongRecOn with
    | _ n ih =>
      intro a w hI
      obtain ⟨e, a₁, w₁, hq, harr⟩ := round n a w hI b (.inLoop c :: k) cs
      cases e with
      | normal =>
        obtain ⟨m, hlt, hI₁⟩ := hq
        obtain ⟨e₂, a₂, w₂, hq₂, harr₂⟩ := ih m hlt a₁ w₁ hI₁
        exact ⟨e₂, a₂, w₂, hq₂, .of_steps (Steps.trans harr (.one step_inLoop)) harr₂⟩
      | exit id => exact ⟨_, a₁, w₁, hq, .pass (x := .inLoop c) rfl (fun _ _ => .inl (by simp)) harr⟩
      | goto l => exact ⟨_, a₁, w₁, hq, .pass (x := .inLoop c) rfl (fun _ _ => .inl (by simp)) harr⟩
      | ret => exact ⟨_, a₁, w₁, hq, .pass (x := .inLoop c) rfl (fun _ _ => .inl (by simp)) harr⟩
      | panic ch => exact ⟨_, a₁, w₁, hq, .pass (x := .inLoop c) rfl (fun _ _ => .inl (by simp)) harr⟩
      | outgrown => exact ⟨_, a₁, w₁, hq, .pass (x := .inLoop c) rfl (fun _ _ => .inl (by simp)) harr⟩
  obtain ⟨e, a', w', hq, harr⟩ := key _ a w h0
  exact ⟨e, a', w', hq, .of_steps (.one step_loop) harr⟩
theorem C_ret {a : Act} (h : Qx .ret a w) : Code.ret.wp P Qx a w := wp_ret h
theorem C_skip {a : Act} (h : Qx .normal a w) : Code.skip.wp P Qx a w := wp_skip h
theorem C_exit {a : Act} {id : Nat} (h : Qx (.exit id) a w) : (Code.exit id).wp P Qx a w := wp_exit h
def rvOf (tmps : Array Value) : ResultVar → Sem Value
  | .tmp t => pure (tmps.getD t undef)
  | .cell a t => do loadVar t (← asAddr (tmps.getD a undef))
/-- the end of a body: what it hands back -/
theorem post_tmps {fn : Func} {ts : List Nat} {e : Exit} (he : e = .normal ∨ e = .ret) (hr : fn.results = (ts.map ResultVar.tmp).toArray)
    (h : Qm (match ts.map (fun t => opv N ρ (.tmp t)) with | [v] => v | vs => .tuple vs.toArray) w) : bodyPost P fn (Rt Qm) e (act N ρ) w := by
  have hv : (results fn (act N ρ).tmps).run P w = .ok (match ts.map (fun t => opv N ρ (.tmp t)) with | [v] => v | vs => .tuple vs.toArray) w := by
    obtain ⟨nm, og, tg, ps, rts, nf, nt, rs, bd, nr, ou, fi, el, ln, mt, tn⟩ := fn
    simp only at hr
    subst hr
    have h1 : results ⟨nm, og, tg, ps, rts, nf, nt, (ts.map ResultVar.tmp).toArray, bd, nr, ou, fi, el, ln, mt, tn⟩ (act N ρ).tmps = (do
      let vs ← (ts.map ResultVar.tmp).toArray.mapM (rvOf (act N ρ).tmps)
      pure (if h : vs.size = 1 then vs[0] else .tuple vs)) := rfl
    have hm : (ts.map ResultVar.tmp).toArray.mapM (rvOf (act N ρ).tmps) = pure (ts.map (fun t => opv N ρ (.tmp t))).toArray := by
      rw [List.mapM_toArray]
      have : ∀ l : List Nat, (l.map ResultVar.tmp).mapM (rvOf (act N ρ).tmps) = pure (l.map (fun t => opv N ρ (.tmp t))) := by
        intro l
        induction l with
        | nil => rfl
        | cons t l ih =>
          simp only [List.map_cons, List.mapM_cons, ih]
          simp only [rvOf, tmps_act, opv, pure_bind]
      rw [this]; simp
    rw [h1, hm]
    simp only [pure_bind, Sem.run_pure]
    match ts with
    | [] => rfl
    | [v] => rfl
    | a :: b :: r => rfl
  rcases he with rfl | rfl
  · exact ⟨rfl, _, hv, h⟩
  · exact ⟨rfl, _, hv, h⟩
end
end Sh
end Go.Proofs.YtongpnolikkknaaGreatDoor

namespace Go.Proofs.YtongpnolikkknaaGreatDoor
namespace Sh
/-- Q, but False at a panic. -/
def noP (Q : Exit → Act → World → Prop) : Exit → Act → World → Prop
  | .panic _, _, _ => False
  | e, a, w => Q e a w
theorem noP_imp {Q : Exit → Act → World → Prop} : ∀ (e : Exit) (a : Act) (w : World), noP Q e a w → Q e a w := fun e a w h => by
  cases e <;> first | exact h | exact (h : False).elim

/-- Operation j waits for i, directly or by others. -/
inductive Dep (ops : Array Oper) : Nat → Nat → Prop where
  | one {j i : Nat} {o : Oper} {e : Edge} : ops[j]? = some o → e ∈ o.after → Region.binds .any e = true → e.on = i → Dep ops j i
  | more {j i : Nat} {o : Oper} {e : Edge} : ops[j]? = some o → e ∈ o.after → Region.binds .any e = true → Dep ops e.on i → Dep ops j i
def pathB (ops : Array Oper) : Nat → List Nat → Bool
  | _, [] => false
  | j, [i] => match ops[j]? with
    | some o => o.after.any fun e => Region.binds .any e && e.on == i
    | none => false
  | j, k :: l => (match ops[j]? with
    | some o => o.after.any fun e => Region.binds .any e && e.on == k
    | none => false) && pathB ops k l
theorem edge_of {ops : Array Oper} {j k : Nat} (h : (match ops[j]? with
    | some o => o.after.any fun e => Region.binds .any e && e.on == k
    | none => false) = true) : ∃ o e, ops[j]? = some o ∧ e ∈ o.after ∧ Region.binds .any e = true ∧ e.on = k := by
  cases ho : ops[j]? with
  | none => simp [ho] at h
  | some o =>
    simp only [ho] at h
    obtain ⟨e, he, hb⟩ := Array.any_eq_true'.1 h
    simp only [Bool.and_eq_true, beq_iff_eq] at hb
    exact ⟨o, e, rfl, he, hb.1, hb.2⟩
theorem dep_path {ops : Array Oper} : ∀ (l : List Nat) (j : Nat), pathB ops j l = true → ∀ i, l.getLast? = some i → Dep ops j i := by
  intro l
  induction l with
  | nil => intro j h; simp [pathB] at h
  | cons k l ih =>
    intro j h i hi
    cases l with
    | nil =>
      simp at hi; subst hi
      obtain ⟨o, e, h1, h2, h3, h4⟩ := edge_of h
      exact .one h1 h2 h3 h4
    | cons k2 l =>
      simp only [pathB, Bool.and_eq_true] at h
      obtain ⟨o, e, h1, h2, h3, h4⟩ := edge_of h.1
      have := ih k h.2 i (by simpa [List.getLast?_cons_cons] using hi)
      subst h4
      exact .more h1 h2 h3 this
abbrev Facts := List (Nat × (World → Prop))
def keepF (ops : Array Oper) (fs : Facts) (j : Nat) (w w' : World) : Prop := ∀ p ∈ fs, ¬ Dep ops j p.1 → p.2 w → p.2 w'
def closedL (ops : Array Oper) (listed : Array Bool) : Prop := ∀ j o, ops[j]? = some o → listed.getD j false = true → ∀ e ∈ o.after, Region.binds .any e = true → listed.getD e.on false = true
section
variable {P : Program} {ops : Array Oper} {Q : Exit → Act → World → Prop}

def anyG (P : Program) (ops : Array Oper) (Q : Exit → Act → World → Prop) (fs : Facts) : Nat → Array Bool → Act → World → Prop
  | 0, listed, a, w => Region.ready .any ops listed = [] ∧ Q .normal a w
  | fuel + 1, listed, a, w =>
    (Region.ready .any ops listed = [] → Q .normal a w) ∧
    ∀ i ∈ Region.ready .any ops listed, wpOp P ops Q i (fun a' w' => keepF ops fs i w w' ∧ anyG P ops Q fs fuel (listed.setIfInBounds i true) a' w') a w
theorem any_of_G {fs : Facts} : ∀ (fuel : Nat) (listed : Array Bool) (a : Act) (w : World), anyG P ops Q fs fuel listed a w → wpAny P .any ops Q fuel listed a w
  | 0, _, _, _, h => h
  | fuel + 1, _, _, _, h => ⟨h.1, fun i hi => wpOp_mono (fun a' w' h' => any_of_G fuel _ a' w' h'.2) (h.2 i hi)⟩
theorem anyG_sub {fs fs' : Facts} (hs : ∀ p ∈ fs, p ∈ fs' ∨ ∀ w, p.2 w) : ∀ (fuel : Nat) (listed : Array Bool) (a : Act) (w : World), anyG P ops Q fs' fuel listed a w → anyG P ops Q fs fuel listed a w
  | 0, _, _, _, h => h
  | fuel + 1, _, _, _, h => ⟨h.1, fun i hi => wpOp_mono (fun a' w' h' => ⟨fun p hp hd hw => (hs p hp).elim (fun hp' => h'.1 p hp' hd hw) (fun ht => ht w'), anyG_sub hs fuel _ a' w' h'.2⟩) (h.2 i hi)⟩

theorem dep_listed {listed : Array Bool} (hc : closedL ops listed) {j i : Nat} (hd : Dep ops j i) : ∀ o, ops[j]? = some o → (∀ e ∈ o.after, Region.binds .any e = true → listed.getD e.on false = true) → listed.getD i false = true := by
  induction hd with
  | one h1 h2 h3 h4 =>
    intro o ho hall
    rw [h1] at ho; cases ho
    rw [← h4]; exact hall _ h2 h3
  | more h1 h2 h3 h4 ih =>
    intro o ho hall
    rw [h1] at ho; cases ho
    have hl := hall _ h2 h3
    cases h4 with
    | one k1 k2 k3 k4 => exact ih _ k1 (fun e' he' hb' => hc _ _ k1 hl e' he' hb')
    | more k1 k2 k3 k4 => exact ih _ k1 (fun e' he' hb' => hc _ _ k1 hl e' he' hb')

theorem closedL_set {listed : Array Bool} {i : Nat} (hc : closedL ops listed) (hr : i ∈ Region.ready .any ops listed) : closedL ops (listed.setIfInBounds i true) := by
  intro j o ho hl e he hb
  by_cases hji : i = j
  · subst hji
    obtain ⟨_, o', ho', hall⟩ := mem_ready.1 hr
    rw [ho] at ho'; cases ho'
    exact getD_set_true (hall e he hb)
  · rw [getD_set_ne false hji] at hl
    exact getD_set_true (hc j o ho hl e he hb)

/-- An operation that may come up now may be taken first. -/
theorem anyG_first {fs : Facts} {F : World → Prop} {i : Nat} {oi : Oper} {v : Value} (hi : ops[i]? = some oi) (hsel : ∀ (j : Nat) (o : Oper) cs b, ops[j]? = some o → o.op ≠ .select cs b)
    (hQ : ∀ c a w, Q (.panic c) (a.put oi.dst v) w → Q (.panic c) a w) :
    ∀ (fuel : Nat) (listed : Array Bool) (a : Act) (w : World), closedL ops listed →
      (∀ j oj, ops[j]? = some oj → j ≠ i → listed.getD j true = false → (∀ e ∈ oj.after, Region.binds .any e = true → e.on ≠ i) → oi.apart ops oj = true) →
      i ∈ Region.ready .any ops listed → YieldsIf P ops F oi v a → F w →
      anyG P ops Q ((i, F) :: fs) fuel (listed.setIfInBounds i true) (a.put oi.dst v) w → anyG P ops Q fs (fuel + 1) listed a w := by
  intro fuel
  induction fuel with
  | zero =>
    intro listed a w hcl _ hr hy hF H
    refine ⟨fun h => (by rw [h] at hr; cases hr), fun j hj => ?_⟩
    by_cases hji : j = i
    · subst hji; exact hy.wpOp hi hF ⟨fun p hp _ hw => hw, anyG_sub (fun p hp => .inl (.tail _ hp)) _ _ _ _ H⟩
    · have := ready_mono hj hji
      rw [H.1] at this
      cases this
  | succ fuel ih =>
    intro listed a w hcl hfree hr hy hF H
    refine ⟨fun h => (by rw [h] at hr; cases hr), fun j hj => ?_⟩
    by_cases hji : j = i
    · subst hji; exact hy.wpOp hi hF ⟨fun p hp _ hw => hw, anyG_sub (fun p hp => .inl (.tail _ hp)) _ _ _ _ H⟩
    · have h1 := H.2 j (ready_mono hj hji)
      obtain ⟨hjun, oj, hoj, hall⟩ := mem_ready.1 hj
      have hiun : listed.getD i false = false := by
        have h0 := (mem_ready.1 hr).1
        rcases Nat.lt_or_ge i listed.size with h' | h'
        · simp [h'] at h0 ⊢; exact h0
        · simp [Array.getElem?_eq_none h']
      have hnot : ∀ e ∈ oj.after, Region.binds .any e = true → e.on ≠ i := fun e he hb heq => by
        have h1 := hall e he hb
        rw [heq, hiun] at h1
        cases h1
      have hdep : ¬ Dep ops j i := fun hd => by
        have := dep_listed hcl hd _ hoj hall; rw [hiun] at this; cases this
      have h2 := wpOp_putIf hoj (hfree j oj hoj hji hjun hnot) (fun cs b => hsel i oi cs b hi) (fun cs b => hsel j oj cs b hoj) hQ hy h1
      have hfree' : ∀ k ok, ops[k]? = some ok → k ≠ i → (listed.setIfInBounds j true).getD k true = false →
          (∀ e ∈ ok.after, Region.binds .any e = true → e.on ≠ i) → oi.apart ops ok = true := fun k ok hk hki hun hno => by
        refine hfree k ok hk hki ?_ hno
        by_cases hjk : j = k
        · subst hjk; exact hjun
        · rw [getD_set_ne true hjk] at hun; exact hun
      refine wpOp_mono (fun a' w' h3 => ?_) h2
      obtain ⟨hy', hk, hG⟩ := h3
      refine ⟨fun p hp hd hw => hk p (.tail _ hp) hd hw, ih (listed.setIfInBounds j true) a' w' (closedL_set hcl hj) hfree' (ready_mono hr (Ne.symm hji)) hy' (hk (i, F) (.head _) hdep hF) ?_⟩
      rw [Array.setIfInBounds_comm _ _ hji]
      exact hG

theorem closedL_of {listed : Array Bool} (h : ((List.range ops.size).all fun j => match ops[j]? with
    | some o => !listed.getD j false || o.after.all fun e => !Region.binds .any e || listed.getD e.on false
    | none => true) = true) : closedL ops listed := by
  intro j o ho hl e he hb
  have hj : j < ops.size := (Array.getElem?_eq_some_iff.1 ho).1
  have h1 := List.all_eq_true.1 h j (List.mem_range.2 hj)
  simp only [ho, hl, Bool.not_true, Bool.false_or] at h1
  have h2 := Array.all_eq_true_iff_forall_mem.1 h1 e he
  simpa [hb] using h2
/-- The look at a step that is taken first. -/
def stepB (ops : Array Oper) (listed : Array Bool) (i : Nat) : Bool :=
  Region.noSelect ops && Region.free .any ops listed i && (Region.ready .any ops listed).contains i &&
  ((List.range ops.size).all fun j => match ops[j]? with
    | some o => !listed.getD j false || o.after.all fun e => !Region.binds .any e || listed.getD e.on false
    | none => true)
theorem anyG_take {fs : Facts} {F : World → Prop} {i : Nat} {oi : Oper} {v : Value} {fuel : Nat} {listed : Array Bool} {a : Act} {w : World} (hi : ops[i]? = some oi) (hs : stepB ops listed i = true)
    (hy : YieldsIf P ops F oi v a) (hF : F w) (h : anyG P ops (noP Q) ((i, F) :: fs) fuel (listed.setIfInBounds i true) (a.put oi.dst v) w) : anyG P ops (noP Q) fs (fuel + 1) listed a w := by
  simp only [stepB, Bool.and_eq_true] at hs
  obtain ⟨⟨⟨h1, h2⟩, h3⟩, h4⟩ := hs
  exact anyG_first hi (Region.noSelect_spec h1) (fun _ _ _ h => h.elim) fuel listed a w (closedL_of h4) (Region.free_spec hi h2) (by simpa using h3) hy hF h

variable {N : Nat} {ρ : Nat → Value} {w : World} {d : Nat} {ty : TypeId} {pos : String} {aft : Array Edge} {Qm : Value → World → Prop} {K : Value → M} {K0 : M} {fs : Facts} {fuel : Nat} {listed : Array Bool}

/-- an operation that looks at no memory -/
theorem G_p {op : Op} (i : Nat) (hi : ops[i]? = some ⟨some d, op, ty, pos, aft, none⟩) (hs : stepB ops listed i = true)
    (hy : ∃ v, (∀ w', (execOp (opv N ρ) ⟨some d, op, ty, pos, aft, none⟩).run P w' = .ok (.value v) w') ∧ K v w Qm)
    (c : ∀ v, K v w Qm → anyG P ops (noP Q) fs fuel (listed.setIfInBounds i true) (act N (upd ρ d v)) w) : anyG P ops (noP Q) fs (fuel + 1) listed (act N ρ) w := by
  obtain ⟨v, hr, hk⟩ := hy
  refine anyG_sub (fs' := fs) (fun p hp => .inl hp) _ _ _ _ (anyG_take (F := fun _ => True) (v := v) hi hs (.inl ⟨rfl, fun w' _ => by rw [eval_act]; exact hr w'⟩) trivial ?_)
  refine anyG_sub (fs' := fs) (fun p hp => ?_) _ _ _ _ (by rw [put_act]; exact c v hk)
  rcases List.mem_cons.1 hp with rfl | hp
  · exact .inr fun _ => trivial
  · exact .inl hp
theorem G_pg {op : Op} {A : (Value → M) → M} {t j : Nat} {want : Bool} (i : Nat) (hi : ops[i]? = some ⟨some d, op, ty, pos, aft, some (j, want)⟩) (hs : stepB ops listed i = true)
    (h : gd (ρ t) want A K w Qm) (hj : (ops[j]?).bind (·.dst) = some t) (ht : Nat.blt t N = true)
    (hy : A K w Qm → ∃ v, (∀ w', (execOp (opv N ρ) ⟨some d, op, ty, pos, aft, some (j, want)⟩).run P w' = .ok (.value v) w') ∧ K v w Qm)
    (c : ∀ v, K v w Qm → anyG P ops (noP Q) fs fuel (listed.setIfInBounds i true) (act N (upd ρ d v)) w) : anyG P ops (noP Q) fs (fuel + 1) listed (act N ρ) w := by
  have key : ∃ v, YieldsIf P ops (fun _ => True) ⟨some d, op, ty, pos, aft, some (j, want)⟩ v (act N ρ) ∧ K v w Qm := by
    unfold gd at h
    cases hb : gdB (ρ t) want <;> rw [hb] at h
    · exact ⟨undef, .inr ⟨by rw [wanted_act hj ht]; exact hb, rfl⟩, h⟩
    · obtain ⟨v, hr, hk⟩ := hy h
      exact ⟨v, .inl ⟨by rw [wanted_act hj ht]; exact hb, fun w' _ => by rw [eval_act]; exact hr w'⟩, hk⟩
  obtain ⟨v, hyy, hk⟩ := key
  refine anyG_sub (fs' := fs) (fun p hp => .inl hp) _ _ _ _ (anyG_take (F := fun _ => True) (v := v) hi hs hyy trivial ?_)
  refine anyG_sub (fs' := fs) (fun p hp => ?_) _ _ _ _ (by rw [put_act]; exact c v hk)
  rcases List.mem_cons.1 hp with rfl | hp
  · exact .inr fun _ => trivial
  · exact .inl hp
/-- an operation that reads memory -/
theorem G_r {op : Op} (F : Value → World → Prop) (i : Nat) (hi : ops[i]? = some ⟨some d, op, ty, pos, aft, none⟩) (hs : stepB ops listed i = true)
    (hy : ∃ v, F v w ∧ (∀ w', F v w' → (execOp (opv N ρ) ⟨some d, op, ty, pos, aft, none⟩).run P w' = .ok (.value v) w') ∧ K v w Qm)
    (c : ∀ v, K v w Qm → anyG P ops (noP Q) ((i, F v) :: fs) fuel (listed.setIfInBounds i true) (act N (upd ρ d v)) w) : anyG P ops (noP Q) fs (fuel + 1) listed (act N ρ) w := by
  obtain ⟨v, hF, hr, hk⟩ := hy
  exact anyG_take (F := F v) (v := v) hi hs (.inl ⟨rfl, fun w' hw' => by rw [eval_act]; exact hr w' hw'⟩) hF (by rw [put_act]; exact c v hk)
theorem G_rg {op : Op} {A : (Value → M) → M} {t j : Nat} {want : Bool} (F : Value → World → Prop) (i : Nat) (hi : ops[i]? = some ⟨some d, op, ty, pos, aft, some (j, want)⟩) (hs : stepB ops listed i = true)
    (h : gd (ρ t) want A K w Qm) (hj : (ops[j]?).bind (·.dst) = some t) (ht : Nat.blt t N = true)
    (hy : A K w Qm → ∃ v, F v w ∧ (∀ w', F v w' → (execOp (opv N ρ) ⟨some d, op, ty, pos, aft, some (j, want)⟩).run P w' = .ok (.value v) w') ∧ K v w Qm)
    (c : ∀ v, K v w Qm → anyG P ops (noP Q) ((i, fun w' => gdB (ρ t) want = true → F v w') :: fs) fuel (listed.setIfInBounds i true) (act N (upd ρ d v)) w) : anyG P ops (noP Q) fs (fuel + 1) listed (act N ρ) w := by
  unfold gd at h
  cases hb : gdB (ρ t) want <;> rw [hb] at h
  · exact anyG_take (F := fun w' => gdB (ρ t) want = true → F undef w') (v := undef) hi hs (.inr ⟨by rw [wanted_act hj ht]; exact hb, rfl⟩) (by rw [hb]; exact fun h => by cases h) (by rw [put_act]; exact c _ h)
  · obtain ⟨v, hF, hr, hk⟩ := hy h
    exact anyG_take (F := fun w' => gdB (ρ t) want = true → F v w') (v := v) hi hs (.inl ⟨by rw [wanted_act hj ht]; exact hb, fun w' hw' => by rw [eval_act]; exact hr w' (hw' hb)⟩) (fun _ => hF) (by rw [put_act]; exact c v hk)
/-- a deed that alone may come up -/
theorem G_e {op : Op} {dst : Option Tmp} (i : Nat) (hi : ops[i]? = some ⟨dst, op, ty, pos, aft, none⟩) (hr : Region.ready .any ops listed = [i])
    (h : Oper.wp P ⟨dst, op, ty, pos, aft, none⟩ (act N ρ) w (fun a' w' => keepF ops fs i w w' ∧ anyG P ops (noP Q) fs fuel (listed.setIfInBounds i true) a' w') (noP Q)) : anyG P ops (noP Q) fs (fuel + 1) listed (act N ρ) w := by
  refine ⟨(fun h0 => by rw [hr] at h0; cases h0), fun j hj => ?_⟩
  rw [hr] at hj
  simp only [List.mem_singleton] at hj
  subst hj
  simp only [wpOp, hi, Region.wanted, if_true]
  exact .inl h
/-- two deeds neither of which waits for the other -/
def amb (A B : M) : M := fun w Q => A w Q ∧ B w Q
theorem G_two {i j : Nat} (hr : Region.ready .any ops listed = [i, j]) {a : Act}
    (h1 : wpOp P ops (noP Q) i (fun a' w' => keepF ops fs i w w' ∧ anyG P ops (noP Q) fs fuel (listed.setIfInBounds i true) a' w') a w)
    (h2 : wpOp P ops (noP Q) j (fun a' w' => keepF ops fs j w w' ∧ anyG P ops (noP Q) fs fuel (listed.setIfInBounds j true) a' w') a w) : anyG P ops (noP Q) fs (fuel + 1) listed a w := by
  refine ⟨(fun h0 => by rw [hr] at h0; cases h0), fun k hk => ?_⟩
  rw [hr] at hk
  simp only [List.mem_cons, List.not_mem_nil, or_false] at hk
  rcases hk with rfl | rfl
  · exact h1
  · exact h2
theorem G_op {op : Op} {dst : Option Tmp} {i : Nat} {X : Act → World → Prop} (hi : ops[i]? = some ⟨dst, op, ty, pos, aft, none⟩) (h : Oper.wp P ⟨dst, op, ty, pos, aft, none⟩ (act N ρ) w X (noP Q)) : wpOp P ops (noP Q) i X (act N ρ) w := by
  simp only [wpOp, hi, Region.wanted, if_true]; exact .inl h
theorem G_done {a : Act} (hr : Region.ready .any ops listed = []) (h : Q .normal a w) : anyG P ops (noP Q) fs fuel listed a w := by
  cases fuel with
  | zero => exact ⟨hr, h⟩
  | succ n => exact ⟨fun _ => h, by rw [hr]; simp⟩
/-- what is to be shown anew behind a deed -/
def kp (F : World → Prop) (K0 : M) : M := fun w Q => F w ∧ K0 w Q
theorem keepF_nil {j : Nat} {w w' : World} : keepF ops [] j w w' := fun _ h => by cases h
theorem keepF_cons {i j : Nat} {F : World → Prop} {w w' : World} (h : F w') (h' : keepF ops fs j w w') : keepF ops ((i, F) :: fs) j w w' := by
  intro p hp hd hw
  rcases List.mem_cons.1 hp with rfl | hp
  · exact h
  · exact h' p hp hd hw
theorem keepF_dep {i j : Nat} {F : World → Prop} {w w' : World} (l : List Nat) (h : pathB ops j l = true) (hl : l.getLast? = some i) (h' : keepF ops fs j w w') : keepF ops ((i, F) :: fs) j w w' := by
  intro p hp hd hw
  rcases List.mem_cons.1 hp with rfl | hp
  · exact absurd (dep_path l j h _ hl) hd
  · exact h' p hp hd hw
theorem D_region {id : Nat} {l : List Oper} {a : Act} (hm : P.follows .mixedOrders = true) (n : Nat) (hn : l.length = n)
    (h : anyG P l.toArray (noP Q) [] n (Array.replicate n false) a (drw w)) : (Code.region id l.toArray true).wp P Q a w := by
  refine wp_mono (Q := noP Q) (wp_region_any hm ?_) noP_imp
  have := any_of_G _ _ _ _ h
  subst hn
  simpa [drw] using this
end
end Sh
end Go.Proofs.YtongpnolikkknaaGreatDoor

namespace Go.Proofs.YtongpnolikkknaaGreatDoor
namespace Sh
section
variable {P : Program} {N : Nat} {ρ : Nat → Value} {w : World} {d : Nat} {ty : TypeId} {pos : String} {aft : Array Edge} {g : Option (Nat × Bool)}
  {Qm : Value → World → Prop} {K : Value → M} {K0 : M}

theorem Y_mv {x : Operand} (h : idv (opv N ρ x) K w Qm) :
    ∃ v, (∀ w', (execOp (opv N ρ) ⟨some d, .move x, ty, pos, aft, g⟩).run P w' = .ok (.value v) w') ∧ K v w Qm :=
  ⟨_, (fun w => by simp [execOp]), h⟩

theorem Y_as {x : Operand} (h : idv (opv N ρ x) K w Qm) :
    ∃ v, (∀ w', (execOp (opv N ρ) ⟨some d, .assign x, ty, pos, aft, g⟩).run P w' = .ok (.value v) w') ∧ K v w Qm :=
  ⟨_, (fun w => by simp [execOp]), h⟩

theorem Y_nc {x : Operand} (h : nc (opv N ρ x) K w Qm) :
    ∃ v, (∀ w', (execOp (opv N ρ) ⟨some d, .nilCheck x, ty, pos, aft, g⟩).run P w' = .ok (.value v) w') ∧ K v w Qm := by
  obtain ⟨h1, h2⟩ := h
  refine ⟨_, fun w => ?_, h2⟩
  revert h1
  simp only [execOp]
  generalize opv N ρ x = v
  intro h1
  cases v with
  | pointer a => cases a <;> simp [okNil] at h1 ⊢
  | func f => cases f <;> simp [okNil] at h1 ⊢
  | _ => simp [okNil] at h1 ⊢

theorem Y_fa {s f k : Nat} {x : Operand} (ht : fOff P s f k = true) (h : fa k (opv N ρ x) K w Qm) :
    ∃ v, (∀ w', (execOp (opv N ρ) ⟨some d, .fieldAddr s x f, ty, pos, aft, g⟩).run P w' = .ok (.value v) w') ∧ K v w Qm := by
  obtain ⟨a, hx, hk⟩ := h
  refine ⟨_, fun w => ?_, hk⟩
  unfold fOff at ht
  split at ht
  · rename_i fs hu
    split at ht
    · rename_i fd hfd
      simp only [Bool.and_eq_true, beq_iff_eq] at ht
      obtain ⟨h1, h2⟩ := ht
      split at h2
      · rename_i i hi
        have hs : (sizeOf fd.type).run P w = .ok i.size w := by simp [sizeOf, typeInfo, hi]
        have h2' : ¬ i.size = 0 := by simpa using h2
        simp [execOp, hx, Instr.fieldAt, underlying, hu, hfd, Instr.sureAddr, fieldPlace, hs, h2', h1]
      · cases h2
    · cases ht
  · cases ht

theorem Y_ad {k : IntKind} {t t2 : TypeId} {x y : Operand} (h : ad k (opv N ρ x) (opv N ρ y) K w Qm) :
    ∃ v, (∀ w', (execOp (opv N ρ) ⟨some d, .binOp .add t x y t2, ty, pos, aft, g⟩).run P w' = .ok (.value v) w') ∧ K v w Qm := by
  obtain ⟨a, b, hx, hy, hk⟩ := h
  exact ⟨_, (fun w => by simp [execOp, hx, hy, eqGuard, binOp, Op.intArith]), hk⟩

theorem Y_su {k : IntKind} {t t2 : TypeId} {x y : Operand} (h : su k (opv N ρ x) (opv N ρ y) K w Qm) :
    ∃ v, (∀ w', (execOp (opv N ρ) ⟨some d, .binOp .sub t x y t2, ty, pos, aft, g⟩).run P w' = .ok (.value v) w') ∧ K v w Qm := by
  obtain ⟨a, b, hx, hy, hk⟩ := h
  exact ⟨_, (fun w => by simp [execOp, hx, hy, eqGuard, binOp, Op.intArith]), hk⟩

theorem Y_qu {k : IntKind} {t t2 : TypeId} {x y : Operand} (h : qu k (opv N ρ x) (opv N ρ y) K w Qm) :
    ∃ v, (∀ w', (execOp (opv N ρ) ⟨some d, .binOp .quo t x y t2, ty, pos, aft, g⟩).run P w' = .ok (.value v) w') ∧ K v w Qm := by
  obtain ⟨a, b, hx, hy, hb, hk⟩ := h
  exact ⟨_, (fun w => by simp [execOp, hx, hy, eqGuard, binOp, Op.intDiv, hb]), hk⟩

theorem Y_re {k : IntKind} {t t2 : TypeId} {x y : Operand} (h : re k (opv N ρ x) (opv N ρ y) K w Qm) :
    ∃ v, (∀ w', (execOp (opv N ρ) ⟨some d, .binOp .rem t x y t2, ty, pos, aft, g⟩).run P w' = .ok (.value v) w') ∧ K v w Qm := by
  obtain ⟨a, b, hx, hy, hb, hk⟩ := h
  exact ⟨_, (fun w => by simp [execOp, hx, hy, eqGuard, binOp, Op.intDiv, hb]), hk⟩

theorem Y_lt {k : IntKind} {t t2 : TypeId} {x y : Operand} (h : lt k (opv N ρ x) (opv N ρ y) K w Qm) :
    ∃ v, (∀ w', (execOp (opv N ρ) ⟨some d, .binOp .lss t x y t2, ty, pos, aft, g⟩).run P w' = .ok (.value v) w') ∧ K v w Qm := by
  obtain ⟨a, b, hx, hy, hk⟩ := h
  exact ⟨_, (fun w => by simp [execOp, hx, hy, eqGuard, binOp, Op.intCmp]), hk⟩

theorem Y_gt {k : IntKind} {t t2 : TypeId} {x y : Operand} (h : gt k (opv N ρ x) (opv N ρ y) K w Qm) :
    ∃ v, (∀ w', (execOp (opv N ρ) ⟨some d, .binOp .gtr t x y t2, ty, pos, aft, g⟩).run P w' = .ok (.value v) w') ∧ K v w Qm := by
  obtain ⟨a, b, hx, hy, hk⟩ := h
  exact ⟨_, (fun w => by simp [execOp, hx, hy, eqGuard, binOp, Op.intCmp, GT.gt]), hk⟩

theorem Y_ge {k : IntKind} {t t2 : TypeId} {x y : Operand} (h : ge k (opv N ρ x) (opv N ρ y) K w Qm) :
    ∃ v, (∀ w', (execOp (opv N ρ) ⟨some d, .binOp .geq t x y t2, ty, pos, aft, g⟩).run P w' = .ok (.value v) w') ∧ K v w Qm := by
  obtain ⟨a, b, hx, hy, hk⟩ := h
  exact ⟨_, (fun w => by simp [execOp, hx, hy, eqGuard, binOp, Op.intCmp, GE.ge]), hk⟩

theorem Y_eqi {k : IntKind} {t t2 : TypeId} {x y : Operand} (h : eqi k (opv N ρ x) (opv N ρ y) K w Qm) :
    ∃ v, (∀ w', (execOp (opv N ρ) ⟨some d, .binOp .eql t x y t2, ty, pos, aft, g⟩).run P w' = .ok (.value v) w') ∧ K v w Qm := by
  obtain ⟨a, b, hx, hy, hk⟩ := h
  refine ⟨_, fun w => ?_, hk⟩
  simp [execOp, hx, hy, eqGuard, binOp, Op.intCmp]
  rfl

theorem Y_nei {k : IntKind} {t t2 : TypeId} {x y : Operand} (h : nei k (opv N ρ x) (opv N ρ y) K w Qm) :
    ∃ v, (∀ w', (execOp (opv N ρ) ⟨some d, .binOp .neq t x y t2, ty, pos, aft, g⟩).run P w' = .ok (.value v) w') ∧ K v w Qm := by
  obtain ⟨a, b, hx, hy, hk⟩ := h
  refine ⟨_, fun w => ?_, hk⟩
  have e : (a != b) = decide (a ≠ b) := by by_cases h : a = b <;> simp [h]
  simp [execOp, hx, hy, eqGuard, binOp, Op.intCmp]
  rw [e]; simp

theorem Y_bits {k : IntKind} {op : BinOp} {t t2 : TypeId} {x y : Operand} (ho : (match op with | .and | .or | .xor | .andNot => true | _ => false) = true) (h : bws op k (opv N ρ x) (opv N ρ y) K w Qm) :
    ∃ v, (∀ w', (execOp (opv N ρ) ⟨some d, .binOp op t x y t2, ty, pos, aft, g⟩).run P w' = .ok (.value v) w') ∧ K v w Qm := by
  obtain ⟨a, b, v, hx, hy, hv, hk⟩ := h
  refine ⟨_, fun w => ?_, hk⟩
  have := hv P w
  cases op <;> simp at ho <;> simp [execOp, hx, hy, eqGuard, binOp, this]

theorem Y_shl {k j : IntKind} {t t2 : TypeId} {x y : Operand} (h : shl k j (opv N ρ x) (opv N ρ y) K w Qm) :
    ∃ v, (∀ w', (execOp (opv N ρ) ⟨some d, .binOp .shl t x y t2, ty, pos, aft, g⟩).run P w' = .ok (.value v) w') ∧ K v w Qm := by
  obtain ⟨a, b, hx, hy, hb, hk⟩ := h
  refine ⟨_, fun w => ?_, hk⟩
  simp [execOp, hx, hy, eqGuard, binOp, Op.shift, show ¬ b < 0 from by omega]

theorem Y_cat {t t2 : TypeId} {x y : Operand} (h : cat (opv N ρ x) (opv N ρ y) K w Qm) :
    ∃ v, (∀ w', (execOp (opv N ρ) ⟨some d, .binOp .add t x y t2, ty, pos, aft, g⟩).run P w' = .ok (.value v) w') ∧ K v w Qm := by
  obtain ⟨a, b, hx, hy, hn, hk⟩ := h
  refine ⟨_, fun w => ?_, hk⟩
  have : ¬ (((a.size + b.size : Nat) : Int) > IntKind.i64.max) := by
    have e : IntKind.i64.max = 9223372036854775807 := by decide
    rw [e]; omega
  simp only [execOp, hx, hy, eqGuard, binOp, Op.stringOp, if_neg this]
  simp

theorem Y_nes {t t2 : TypeId} {x y : Operand} (h : nes (opv N ρ x) (opv N ρ y) K w Qm) :
    ∃ v, (∀ w', (execOp (opv N ρ) ⟨some d, .binOp .neq t x y t2, ty, pos, aft, g⟩).run P w' = .ok (.value v) w') ∧ K v w Qm := by
  obtain ⟨a, b, hx, hy, hk⟩ := h
  refine ⟨_, fun w => ?_, hk⟩
  simp only [execOp, hx, hy, eqGuard, binOp, Op.stringOp, toList_eq]
  simp

theorem Y_pk {x y z : Operand} (h : pk (opv N ρ x) (opv N ρ y) (opv N ρ z) K w Qm) :
    ∃ v, (∀ w', (execOp (opv N ρ) ⟨some d, .pick x y z, ty, pos, aft, g⟩).run P w' = .ok (.value v) w') ∧ K v w Qm := by
  obtain ⟨b, hx, hk⟩ := h
  refine ⟨_, fun w => ?_, hk⟩
  cases b <;> simp [execOp, hx, asBool]

theorem Y_ex {i : Nat} {x : Operand} (h : ex i (opv N ρ x) K w Qm) :
    ∃ v, (∀ w', (execOp (opv N ρ) ⟨some d, .extract x i, ty, pos, aft, g⟩).run P w' = .ok (.value v) w') ∧ K v w Qm := by
  obtain ⟨vs, v, hx, hv, hk⟩ := h
  exact ⟨_, (fun w => by simp [execOp, hx, Instr.extract, hv]), hk⟩

theorem Y_lnl {t : TypeId} {x : Operand} (ht : isSl P t = true) (h : lnl (opv N ρ x) K w Qm) :
    ∃ v, (∀ w', (execOp (opv N ρ) ⟨some d, .call ⟨.builtin .len, #[x], #[t]⟩, ty, pos, aft, g⟩).run P w' = .ok (.value v) w') ∧ K v w Qm := by
  obtain ⟨a, l, cp, hx, hk⟩ := h
  refine ⟨_, fun w => ?_, hk⟩
  unfold isSl at ht
  cases hu : P.underlying t with
  | none => simp [hu] at ht
  | some u =>
    cases u <;> simp [hu] at ht
    simp [execOp, hx, resolve, invoke, builtin, Builtin.len_, underlying, hu, goInt]

theorem Y_lns {t : TypeId} {x : Operand} (ht : isStr P t = true) (h : lns (opv N ρ x) K w Qm) :
    ∃ v, (∀ w', (execOp (opv N ρ) ⟨some d, .call ⟨.builtin .len, #[x], #[t]⟩, ty, pos, aft, g⟩).run P w' = .ok (.value v) w') ∧ K v w Qm := by
  obtain ⟨s, hx, hk⟩ := h
  refine ⟨_, fun w => ?_, hk⟩
  unfold isStr at ht
  cases hu : P.underlying t with
  | none => simp [hu] at ht
  | some u =>
    cases u <;> simp [hu] at ht
    simp [execOp, hx, resolve, invoke, builtin, Builtin.len_, underlying, hu, goInt]

theorem Y_ia {t : TypeId} {n : Nat} {x y : Operand} (ht : slE P t n = true) (h : ia n (opv N ρ x) (opv N ρ y) K w Qm) :
    ∃ v, (∀ w', (execOp (opv N ρ) ⟨some d, .indexAddr t x y, ty, pos, aft, g⟩).run P w' = .ok (.value v) w') ∧ K v w Qm := by
  obtain ⟨a, l, cp, k, j, hx, hy, h0, hl, hk⟩ := h
  refine ⟨_, fun w => ?_, hk⟩
  unfold slE at ht
  cases hu : P.underlying t with
  | none => simp [hu] at ht
  | some u =>
    cases u <;> simp [hu] at ht
    obtain ⟨i, hi, hs⟩ := ht
    simp [execOp, hx, hy, Instr.indexAt, asIntOf, underlying, hu, sizeOf, typeInfo, hi, hs, h0, hl]

theorem Y_iaa {t : TypeId} {len n : Nat} {x y : Operand} (ht : arE P t len n = true) (h : iaa len n (opv N ρ x) (opv N ρ y) K w Qm) :
    ∃ v, (∀ w', (execOp (opv N ρ) ⟨some d, .indexAddr t x y, ty, pos, aft, g⟩).run P w' = .ok (.value v) w') ∧ K v w Qm := by
  obtain ⟨a, k, j, hx, hy, h0, hl, hk⟩ := h
  refine ⟨_, fun w => ?_, hk⟩
  unfold arE at ht
  cases hu : P.underlying t with
  | none => simp [hu] at ht
  | some u =>
    cases u <;> simp [hu] at ht
    obtain ⟨h1, i, hi, hs⟩ := ht
    subst h1
    simp [execOp, hx, hy, Instr.indexAt, Instr.sureAddr, asIntOf, underlying, hu, sizeOf, typeInfo, hi, hs, h0, hl]

theorem Y_sls {t : TypeId} {x : Operand} {lo hi : Option Operand} (ht : isStr P t = true) (h : sls (opv N ρ x) (lo.map (opv N ρ)) (hi.map (opv N ρ)) K w Qm) :
    ∃ v, (∀ w', (execOp (opv N ρ) ⟨some d, .slice t x lo hi none, ty, pos, aft, g⟩).run P w' = .ok (.value v) w') ∧ K v w Qm := by
  obtain ⟨s, l, hh, hx, h1, h2, hk⟩ := h
  refine ⟨_, fun w => ?_, hk⟩
  unfold isStr at ht
  cases hu : P.underlying t with
  | none => simp [hu] at ht
  | some u =>
    cases u <;> simp [hu] at ht
    cases lo with
    | none =>
      simp only [Option.map_none] at h2
      have h2' : l = 0 := h2
      subst h2'
      cases hi with
      | none => have h1' : hh = s.size := h1; subst h1'; simp [execOp, hx, Instr.sliceAt, Instr.slice, underlying, hu, Instr.sliceBounds]
      | some y => have := run_bound (P := P) (w := w) (code := .sliceAlen) h1 rfl; simp [execOp, hx, Instr.sliceAt, Instr.slice, underlying, hu, Instr.sliceBounds, this]
    | some z =>
      have h2' := run_bound (P := P) (w := w) (code := .sliceB) h2 rfl
      cases hi with
      | none => have h1' : hh = s.size := h1; subst h1'; simp [execOp, hx, Instr.sliceAt, Instr.slice, underlying, hu, Instr.sliceBounds, h2']
      | some y => have := run_bound (P := P) (w := w) (code := .sliceAlen) h1 rfl; simp [execOp, hx, Instr.sliceAt, Instr.slice, underlying, hu, Instr.sliceBounds, this, h2']

theorem Y_sll {t : TypeId} {n : Nat} {x : Operand} {lo hi : Option Operand} (ht : slE P t n = true) (h : sll n (opv N ρ x) (lo.map (opv N ρ)) (hi.map (opv N ρ)) K w Qm) :
    ∃ v, (∀ w', (execOp (opv N ρ) ⟨some d, .slice t x lo hi none, ty, pos, aft, g⟩).run P w' = .ok (.value v) w') ∧ K v w Qm := by
  obtain ⟨a, len, cap, l, hh, hx, h1, h2, hk⟩ := h
  refine ⟨_, fun w => ?_, hk⟩
  unfold slE at ht
  cases hu : P.underlying t with
  | none => simp [hu] at ht
  | some u =>
    cases u <;> simp [hu] at ht
    obtain ⟨i, hi', hs⟩ := ht
    cases lo with
    | none =>
      have h2' : l = 0 := h2
      subst h2'
      cases hi with
      | none => have h1' : hh = len := h1; subst h1'; simp [execOp, hx, Instr.sliceAt, Instr.slice, underlying, hu, Instr.sliceBounds, sizeOf, typeInfo, hi', hs]
      | some y => have := run_bound (P := P) (w := w) (code := .sliceAcap) h1 rfl; simp [execOp, hx, Instr.sliceAt, Instr.slice, underlying, hu, Instr.sliceBounds, this, sizeOf, typeInfo, hi', hs]
    | some z =>
      have h2' := run_bound (P := P) (w := w) (code := .sliceB) h2 rfl
      cases hi with
      | none => have h1' : hh = len := h1; subst h1'; simp [execOp, hx, Instr.sliceAt, Instr.slice, underlying, hu, Instr.sliceBounds, h2', sizeOf, typeInfo, hi', hs]
      | some y => have := run_bound (P := P) (w := w) (code := .sliceAcap) h1 rfl; simp [execOp, hx, Instr.sliceAt, Instr.slice, underlying, hu, Instr.sliceBounds, this, h2', sizeOf, typeInfo, hi', hs]

theorem Y_sla {t : TypeId} {len n : Nat} {x : Operand} {lo hi : Option Operand} (ht : arE P t len n = true) (h : sla len n (opv N ρ x) (lo.map (opv N ρ)) (hi.map (opv N ρ)) K w Qm) :
    ∃ v, (∀ w', (execOp (opv N ρ) ⟨some d, .slice t x lo hi none, ty, pos, aft, g⟩).run P w' = .ok (.value v) w') ∧ K v w Qm := by
  obtain ⟨a, l, hh, hx, h1, h2, hk⟩ := h
  refine ⟨_, fun w => ?_, hk⟩
  unfold arE at ht
  cases hu : P.underlying t with
  | none => simp [hu] at ht
  | some u =>
    cases u <;> simp [hu] at ht
    obtain ⟨h3, i, hi', hs⟩ := ht
    subst h3
    cases lo with
    | none =>
      have h2' : l = 0 := h2
      subst h2'
      cases hi with
      | none => have h1' := h1; simp only [Option.map_none, bnd] at h1'; subst h1'; simp [execOp, hx, Instr.sliceAt, Instr.sureAddr, underlying, hu, Instr.sliceBounds, sizeOf, typeInfo, hi', hs]
      | some y => have := run_bound (P := P) (w := w) (code := .sliceAlen) h1 rfl; simp [execOp, hx, Instr.sliceAt, Instr.sureAddr, underlying, hu, Instr.sliceBounds, this, sizeOf, typeInfo, hi', hs]
    | some z =>
      have h2' := run_bound (P := P) (w := w) (code := .sliceB) h2 rfl
      cases hi with
      | none => have h1' := h1; simp only [Option.map_none, bnd] at h1'; subst h1'; simp [execOp, hx, Instr.sliceAt, Instr.sureAddr, underlying, hu, Instr.sliceBounds, h2', sizeOf, typeInfo, hi', hs]
      | some y => have := run_bound (P := P) (w := w) (code := .sliceAlen) h1 rfl; simp [execOp, hx, Instr.sliceAt, Instr.sureAddr, underlying, hu, Instr.sliceBounds, this, h2', sizeOf, typeInfo, hi', hs]

theorem Y_mf {fn : Fn} {first cap : Array Operand} (h : idv (.func fn (first.map (opv N ρ)) (cap.map (opv N ρ))) K w Qm) :
    ∃ v, (∀ w', (execOp (opv N ρ) ⟨some d, .makeFunc fn first cap, ty, pos, aft, g⟩).run P w' = .ok (.value v) w') ∧ K v w Qm :=
  ⟨_, (fun w => by simp [execOp, Instr.makeFunc]), h⟩

def Kld (x v : Value) (w : World) : Prop := ∃ a, x = .pointer (some a) ∧ w.cell? a = some v
def Kldn (n : Nat) (x v : Value) (w : World) : Prop := ∃ a cs, x = .pointer (some a) ∧ cs.size = n ∧ rds w a cs ∧ v = .agg cs
theorem R_ld {t : TypeId} {x : Operand} (ht : isSc P t = true) (h : ld (opv N ρ x) K w Qm) :
    ∃ v, Kld (opv N ρ x) v w ∧ (∀ w', Kld (opv N ρ x) v w' → (execOp (opv N ρ) ⟨some d, .load t x, ty, pos, aft, g⟩).run P w' = .ok (.value v) w') ∧ K v w Qm := by
  obtain ⟨a, v, hx, hv, hk⟩ := h
  refine ⟨v, ⟨a, hx, hv⟩, fun w' hw => ?_, hk⟩
  obtain ⟨a', hx', hv'⟩ := hw
  rw [hx] at hx'; cases hx'
  simp [execOp, hx, Instr.loadAt, Instr.sureAddr, loadVar, run_isAgg_sc ht, hv']
theorem R_ldn {t : TypeId} {n : Nat} {x : Operand} (ht : isAg P t n = true) (h : ldn n (opv N ρ x) K w Qm) :
    ∃ v, Kldn n (opv N ρ x) v w ∧ (∀ w', Kldn n (opv N ρ x) v w' → (execOp (opv N ρ) ⟨some d, .load t x, ty, pos, aft, g⟩).run P w' = .ok (.value v) w') ∧ K v w Qm := by
  obtain ⟨a, cs, hx, hn, hv, hk⟩ := h
  refine ⟨.agg cs, ⟨a, cs, hx, hn, hv, rfl⟩, fun w' hw => ?_, hk⟩
  obtain ⟨a', cs', hx', hn', hv', e⟩ := hw
  rw [hx] at hx'; cases hx'; cases e
  have := run_loadCellsFrom_rds (P := P) hv' n 0 #[] (by omega)
  simp [execOp, hx, Instr.loadAt, Instr.sureAddr, loadVar, run_isAgg_ag ht, run_sizeOf_ag ht, loadCells, this]
/-- Whatever operation yields a value and leaves the world alone, told by its own run, in each world of which F holds. -/
def Ksm (P : Program) (s : Sem Value) (v : Value) (w : World) : Prop := s.run P w = .ok v w
def smr (P : Program) (s : Sem Value) (K : Value → M) : M := fun w Q => ∃ v, s.run P w = .ok v w ∧ K v w Q
theorem R_sm {op : Op} {s : Sem Value} (he : execOp (opv N ρ) ⟨some d, op, ty, pos, aft, g⟩ = (do pure (.value (← s)))) (h : smr P s K w Qm) :
    ∃ v, Ksm P s v w ∧ (∀ w', Ksm P s v w' → (execOp (opv N ρ) ⟨some d, op, ty, pos, aft, g⟩).run P w' = .ok (.value v) w') ∧ K v w Qm := by
  obtain ⟨v, hr, hk⟩ := h
  exact ⟨v, hr, fun w' hw => by rw [he]; simp [show s.run P w' = .ok v w' from hw], hk⟩
theorem P_smr {op : Op} {s : Sem Value} {next : Act → World → Prop} {Qx : Exit → Act → World → Prop} (he : execOp (opv N ρ) ⟨some d, op, ty, pos, aft, g⟩ = (do pure (.value (← s)))) (h : smr P s K w Qm) (c : ∀ v w', K v w' Qm → next (act N (upd ρ d v)) w') : Oper.wp P ⟨some d, op, ty, pos, aft, g⟩ (act N ρ) w next Qx := by
  obtain ⟨v, hr, hk⟩ := h
  exact wp_run (by rw [he]; simp [hr]) (c _ _ hk)
end
end Sh
end Go.Proofs.YtongpnolikkknaaGreatDoor

namespace Go.Proofs.YtongpnolikkknaaGreatDoor
namespace Sh
section
variable {P : Program} {N : Nat} {ρ : Nat → Value} {w : World} {d : Nat} {ty : TypeId} {pos : String} {aft : Array Edge} {g : Option (Nat × Bool)}
  {next : Act → World → Prop} {Qx : Exit → Act → World → Prop} {Qm : Value → World → Prop} {K : Value → M} {K0 : M}

theorem map_l (l : List Operand) : (l.toArray.map (opv N ρ)) = (l.map (opv N ρ)).toArray := by simp

theorem N_cc {fn : Func} {b : Code} {f : FuncId} {l : List Operand} {ts : Array TypeId} (hf : P.funcs[f]? = some fn) (hb : fn.body = some b) (hn : (fn.name == "runtime.NumGoroutine") = false)
    (h : cc P f (l.map (opv N ρ)).toArray K w Qm) (c : ∀ v w', K v w' Qm → next (act N (upd ρ d v)) w') : Oper.wp P ⟨some d, .call ⟨.value (.func f), l.toArray, ts⟩, ty, pos, aft, g⟩ (act N ρ) w next Qx :=
  P_cc hf hb hn (by rw [map_l]; exact h) c
theorem N_cl {fn : Func} {b : Code} {f : FuncId} {F : M} {l : List Operand} {ts : Array TypeId} (hf : P.funcs[f]? = some fn) (hb : fn.body = some b) (hn : (fn.name == "runtime.NumGoroutine") = false)
    (hs : ∀ w Q, F w Q → Calls P f (l.map (opv N ρ)).toArray w (Rt Q))
    (h : cl F K w Qm) (c : ∀ v w', K v w' Qm → next (act N (upd ρ d v)) w') : Oper.wp P ⟨some d, .call ⟨.value (.func f), l.toArray, ts⟩, ty, pos, aft, g⟩ (act N ρ) w next Qx :=
  P_cl hf hb hn (fun w Q hF => by rw [map_l]; exact hs w Q hF) h c
theorem N_cf {x : Operand} {l : List Operand} {ts : Array TypeId} (h : cf P (opv N ρ x) (l.map (opv N ρ)).toArray K w Qm) (c : ∀ v w', K v w' Qm → next (act N (upd ρ d v)) w') : Oper.wp P ⟨some d, .call ⟨.value x, l.toArray, ts⟩, ty, pos, aft, g⟩ (act N ρ) w next Qx :=
  P_cf (by rw [map_l]; exact h) c
theorem N_mf {fn : Fn} {l1 l2 : List Operand} (h : idv (.func fn (l1.map (opv N ρ)).toArray (l2.map (opv N ρ)).toArray) K w Qm) (c : ∀ v w', K v w' Qm → next (act N (upd ρ d v)) w') : Oper.wp P ⟨some d, .makeFunc fn l1.toArray l2.toArray, ty, pos, aft, g⟩ (act N ρ) w next Qx :=
  P_mf (by rw [map_l, map_l]; exact h) c
theorem Y_nmf {fn : Fn} {l1 l2 : List Operand} (h : idv (.func fn (l1.map (opv N ρ)).toArray (l2.map (opv N ρ)).toArray) K w Qm) :
    ∃ v, (∀ w', (execOp (opv N ρ) ⟨some d, .makeFunc fn l1.toArray l2.toArray, ty, pos, aft, g⟩).run P w' = .ok (.value v) w') ∧ K v w Qm :=
  Y_mf (by rw [map_l, map_l]; exact h)
theorem map_p (l : List (Nat × Operand)) : (l.toArray.map fun (i, x) => (i, opv N ρ x)) = (l.map fun p => (p.1, opv N ρ p.2)).toArray := by simp
theorem N_bld {t : TypeId} {l : List (Nat × Operand)} (h : smr P (Instr.build t (l.map fun p => (p.1, opv N ρ p.2)).toArray) K w Qm) (c : ∀ v w', K v w' Qm → next (act N (upd ρ d v)) w') : Oper.wp P ⟨some d, .build t l.toArray, ty, pos, aft, g⟩ (act N ρ) w next Qx :=
  P_smr (by simp only [execOp]; rw [map_p]) h c
theorem R_bld {t : TypeId} {l : List (Nat × Operand)} (h : smr P (Instr.build t (l.map fun p => (p.1, opv N ρ p.2)).toArray) K w Qm) :
    ∃ v, Ksm P (Instr.build t (l.map fun p => (p.1, opv N ρ p.2)).toArray) v w ∧ (∀ w', Ksm P (Instr.build t (l.map fun p => (p.1, opv N ρ p.2)).toArray) v w' → (execOp (opv N ρ) ⟨some d, .build t l.toArray, ty, pos, aft, g⟩).run P w' = .ok (.value v) w') ∧ K v w Qm :=
  R_sm (by simp only [execOp]; rw [map_p]) h
theorem N_bsl {t : TypeId} {n : Nat} {l : List (Nat × Operand)} (h : sm P (Instr.buildSlice t n (l.map fun p => (p.1, opv N ρ p.2)).toArray) K w Qm) (c : ∀ v w', K v w' Qm → next (act N (upd ρ d v)) w') : Oper.wp P ⟨some d, .buildSlice t n l.toArray, ty, pos, aft, g⟩ (act N ρ) w next Qx :=
  P_sm (by simp only [execOp]; rw [map_p]) h c
theorem exec_bi {dst : Option Tmp} {b : Builtin} {l : List Operand} {ts : Array TypeId} : execOp (opv N ρ) ⟨dst, .call ⟨.builtin b, l.toArray, ts⟩, ty, pos, aft, g⟩ = builtin b ts ty (l.toArray.map fun | .const _ => true | _ => false) (l.map (opv N ρ)).toArray := by
  simp [execOp, resolve, invoke]
  rfl
theorem N_bi {b : Builtin} {l : List Operand} {ts : Array TypeId} {s : Sem Value} (he : builtin b ts ty (l.toArray.map fun | .const _ => true | _ => false) (l.map (opv N ρ)).toArray = (do pure (.value (← s))))
    (h : sm P s K w Qm) (c : ∀ v w', K v w' Qm → next (act N (upd ρ d v)) w') : Oper.wp P ⟨some d, .call ⟨.builtin b, l.toArray, ts⟩, ty, pos, aft, g⟩ (act N ρ) w next Qx :=
  P_sm (by rw [exec_bi, he]) h c
theorem N_bin {b : Builtin} {l : List Operand} {ts : Array TypeId} {s : Sem Value} (he : builtin b ts ty (l.toArray.map fun | .const _ => true | _ => false) (l.map (opv N ρ)).toArray = (do pure (.value (← s))))
    (h : sm P s (fun _ => K0) w Qm) (c : ∀ w', K0 w' Qm → next (act N ρ) w') : Oper.wp P ⟨none, .call ⟨.builtin b, l.toArray, ts⟩, ty, pos, aft, g⟩ (act N ρ) w next Qx :=
  P_smn (by rw [exec_bi, he]) h c

/-! joins and loops -/
def jn {α : Type} (F : α → M) (k : α) : M := F k
def itr {α : Type} (b : α) (F : α → α) : Nat → α
  | 0 => b
  | n + 1 => F (itr b F n)
def lo {α : Type} (b : α) (F : α → α) (ap0 : α → M) : M := fun w Q => ∃ n, ap0 (itr b F n) w Q
theorem C_join {α : Type} {c : Code} (ap : α → (Nat → Value) → M) {F : α → M} {k : α} (h : jn F k w Qm)
    (hb : ∀ k', (∀ ρ w, ap k' ρ w Qm → Qx .normal (act N ρ) w) → F k' w Qm → c.wp P Qx (act N ρ) w)
    (hj : ∀ ρ w, ap k ρ w Qm → Qx .normal (act N ρ) w) : c.wp P Qx (act N ρ) w := hb k hj h
theorem C_blk {id : Nat} {c : Code} {a : Act} (h : c.wp P (Exit.inBlock id Qx) a w) : (Code.block id c).wp P Qx a w := wp_block h
theorem C_lo {α : Type} {c : Code} (ap : α → (Nat → Value) → M) {b : α} {F : α → α} (h : lo b F (fun l => ap l ρ) w Qm)
    (hbot : ∀ ρ w, ap b ρ w Qm → False)
    (round : ∀ (next : Act → World → Prop) (self : α), (∀ ρ w, ap self ρ w Qm → next (act N ρ) w) → ∀ ρ w, ap (F self) ρ w Qm → c.wp P (Exit.then next Qx) (act N ρ) w) :
    (Code.loop c).wp P Qx (act N ρ) w := by
  obtain ⟨n, h⟩ := h
  refine C_loop (fun n a w => ∃ ρ, a = act N ρ ∧ ap (itr b F n) ρ w Qm) (n := n) ⟨ρ, rfl, h⟩ ?_
  rintro n _ w ⟨ρ, rfl, h⟩
  cases n with
  | zero => exact (hbot _ _ h).elim
  | succ n => exact round _ (itr b F n) (fun ρ' w' h' => ⟨n, Nat.lt_succ_self n, ρ', rfl, h'⟩) ρ w h
theorem E_n {nx : Act → World → Prop} {a : Act} (h : nx a w) : Exit.then nx Qx .normal a w := h
theorem E_x {nx : Act → World → Prop} {a : Act} {id : Nat} (h : Qx (.exit id) a w) : Exit.then nx Qx (.exit id) a w := h
theorem B_n {a : Act} {id : Nat} (h : Qx .normal a w) : Exit.inBlock id Qx .normal a w := h
theorem B_x {a : Act} {id : Nat} (h : Qx .normal a w) : Exit.inBlock id Qx (.exit id) a w := by simp only [Exit.inBlock, if_true]; exact h
end
end Sh
end Go.Proofs.YtongpnolikkknaaGreatDoor

namespace Go.Proofs.YtongpnolikkknaaGreatDoor
namespace Sh
theorem kp_1 {F : World → Prop} {X : M} {w : World} {Q : Value → World → Prop} (h : kp F X w Q) : F w := h.1
theorem kp_2 {F : World → Prop} {X : M} {w : World} {Q : Value → World → Prop} (h : kp F X w Q) : X w Q := h.2
theorem amb_1 {X Y : M} {w : World} {Q : Value → World → Prop} (h : amb X Y w Q) : X w Q := h.1
theorem amb_2 {X Y : M} {w : World} {Q : Value → World → Prop} (h : amb X Y w Q) : Y w Q := h.2
def dr (X : M) : M := fun w Q => X (drw w) Q
theorem dr_e {X : M} {w : World} {Q : Value → World → Prop} (h : dr X w Q) : X (drw w) Q := h
section
variable {P : Program} {N : Nat} {ρ : Nat → Value} {w : World} {Qm : Value → World → Prop} {K : Value → M}
def rvO (ρ : Nat → Value) (N : Nat) : ResultVar → Sem Value
  | .tmp t => pure (opv N ρ (.tmp t))
  | .cell a t => do loadVar t (← asAddr (opv N ρ (.tmp a)))
def oneOr : List Value → Value
  | [v] => v
  | vs => .tuple vs.toArray
def RS (P : Program) (N : Nat) (ρ : Nat → Value) (w : World) : List ResultVar → List Value → Prop
  | [], [] => True
  | r :: rs, v :: vs => (rvO ρ N r).run P w = .ok v w ∧ RS P N ρ w rs vs
  | _, _ => False
theorem rv_ldn {t : TypeId} {n a : Nat} (ht : isAg P t n = true) (h : ldn n (opv N ρ (.tmp a)) K w Qm) : ∃ v, (rvO ρ N (.cell a t)).run P w = .ok v w ∧ K v w Qm := by
  obtain ⟨b, cs, hx, hn, hv, hk⟩ := h
  refine ⟨_, ?_, hk⟩
  have := run_loadCellsFrom_rds (P := P) hv n 0 #[] (by omega)
  simp [rvO, hx, asAddr, loadVar, run_isAgg_ag ht, run_sizeOf_ag ht, loadCells, this]
theorem post_gen {fn : Func} {rs : List ResultVar} {vs : List Value} {e : Exit} (he : e = .normal ∨ e = .ret) (hr : fn.results = rs.toArray) (hs : RS P N ρ w rs vs)
    (h : Qm (oneOr vs) w) : bodyPost P fn (Rt Qm) e (act N ρ) w := by
  have hv : (results fn (act N ρ).tmps).run P w = .ok (oneOr vs) w := by
    obtain ⟨nm, og, tg, ps, rts, nf, nt, rs', bd, nr, ou, fi, el, ln, mt, tn⟩ := fn
    simp only at hr
    subst hr
    have h1 : results ⟨nm, og, tg, ps, rts, nf, nt, rs.toArray, bd, nr, ou, fi, el, ln, mt, tn⟩ (act N ρ).tmps = (do
      let vs ← rs.toArray.mapM (rvOf (act N ρ).tmps)
      pure (if h : vs.size = 1 then vs[0] else .tuple vs)) := rfl
    have h0 : rvOf (act N ρ).tmps = rvO ρ N := by
      funext r
      cases r with
      | tmp t => simp only [rvOf, rvO, tmps_act, opv]
      | cell a t => simp only [rvOf, rvO, tmps_act, opv]
    have hm : ∀ (rs : List ResultVar) (vs : List Value), RS P N ρ w rs vs → (rs.mapM (rvO ρ N)).run P w = .ok vs w := by
      intro rs
      induction rs with
      | nil => intro vs h; cases vs with
        | nil => rfl
        | cons v vs => exact h.elim
      | cons r rs ih => intro vs h; cases vs with
        | nil => exact h.elim
        | cons v vs => simp only [List.mapM_cons, Sem.run_bind, h.1, Result.andThen_ok, ih vs h.2, Sem.run_pure]
    rw [h1, h0, List.mapM_toArray]
    simp only [map_eq_pure_bind, bind_assoc, pure_bind, Sem.run_bind, hm rs vs hs, Result.andThen_ok, Sem.run_pure]
    match vs with
    | [] => rfl
    | [v] => rfl
    | a :: b :: r => rfl
  rcases he with rfl | rfl
  · exact ⟨rfl, _, hv, h⟩
  · exact ⟨rfl, _, hv, h⟩
theorem post_res {fn : Func} (rs : List ResultVar) {e : Exit} (he : e = .normal ∨ e = .ret) (hr : fn.results = rs.toArray) (h : ∃ vs, RS P N ρ w rs vs ∧ Qm (oneOr vs) w) : bodyPost P fn (Rt Qm) e (act N ρ) w := by
  obtain ⟨vs, hs, h⟩ := h
  exact post_gen he hr hs h
theorem res_ldn {rs : List ResultVar} (a : Nat) (t : TypeId) {n : Nat} (ht : isAg P t n = true) (h : ldn n (opv N ρ (.tmp a)) K w Qm)
    (c : ∀ v, (rvO ρ N (.cell a t)).run P w = .ok v w → K v w Qm → ∃ vs, RS P N ρ w rs vs ∧ Qm (oneOr vs) w) : ∃ vs, RS P N ρ w rs vs ∧ Qm (oneOr vs) w := by
  obtain ⟨v, hv, hk⟩ := rv_ldn ht h
  exact c v hv hk
end
end Sh
end Go.Proofs.YtongpnolikkknaaGreatDoor

namespace Go.Proofs.YtongpnolikkknaaGreatDoor
namespace Sh
section
variable {w : World} {Q : Value → World → Prop} {K : Value → M} {K0 A B : M} {k j : IntKind} {a b : Int} {x y v : Value}
theorem ad_e : ad k (.int k a) (.int k b) K w Q = K (.int k (k.wrap (a + b))) w Q := by simp [ad]
theorem su_e : su k (.int k a) (.int k b) K w Q = K (.int k (k.wrap (a - b))) w Q := by simp [su]
theorem mu_e : mu k (.int k a) (.int k b) K w Q = K (.int k (k.wrap (a * b))) w Q := by simp [mu]
theorem qu_e : qu k (.int k a) (.int k b) K w Q = (b ≠ 0 ∧ K (.int k (k.wrap (a.tdiv b))) w Q) := by simp [qu]
theorem re_e : re k (.int k a) (.int k b) K w Q = (b ≠ 0 ∧ K (.int k (a.tmod b)) w Q) := by simp [re]
theorem lt_e : lt k (.int k a) (.int k b) K w Q = K (.bool (decide (a < b))) w Q := by simp [lt]
theorem le_e : le k (.int k a) (.int k b) K w Q = K (.bool (decide (a ≤ b))) w Q := by simp [le]
theorem gt_e : gt k (.int k a) (.int k b) K w Q = K (.bool (decide (b < a))) w Q := by simp [gt]
theorem ge_e : ge k (.int k a) (.int k b) K w Q = K (.bool (decide (b ≤ a))) w Q := by simp [ge]
theorem eqi_e : eqi k (.int k a) (.int k b) K w Q = K (.bool (decide (a = b))) w Q := by simp [eqi]
theorem nei_e : nei k (.int k a) (.int k b) K w Q = K (.bool (decide (a ≠ b))) w Q := by simp [nei]
theorem shl_e : shl k j (.int k a) (.int j b) K w Q = (0 ≤ b ∧ K (.int k (k.wrap (a * 2 ^ (min b.toNat k.bits)))) w Q) := by simp [shl]
theorem shr_e : shr k j (.int k a) (.int j b) K w Q = (0 ≤ b ∧ K (.int k (a.fdiv (2 ^ (min b.toNat k.bits)))) w Q) := by simp [shr]
theorem cv_e : cv k (.int j a) K w Q = K (.int k (k.wrap a)) w Q := by
  unfold cv; apply propext; constructor
  · rintro ⟨k', a', h1, h⟩; cases h1; exact h
  · exact fun h => ⟨_, _, rfl, h⟩
theorem nt_e {t : Bool} : nt (.bool t) K w Q = K (.bool !t) w Q := by simp [nt]
theorem pk_e {t : Bool} : pk (.bool t) x y K w Q = K (bif t then x else y) w Q := by simp [pk]
theorem eqb_e {t u : Bool} : eqb (.bool t) (.bool u) K w Q = K (.bool (t == u)) w Q := by simp [eqb]
theorem neb_e {t u : Bool} : neb (.bool t) (.bool u) K w Q = K (.bool !(t == u)) w Q := by simp [neb]
theorem cat_e {s t : ByteArray} : cat (.string s) (.string t) K w Q = (s.size + t.size ≤ 9223372036854775807 ∧ K (.string (s ++ t)) w Q) := by simp [cat]
theorem eqs_e {s t : ByteArray} : eqs (.string s) (.string t) K w Q = K (.bool (decide (s = t))) w Q := by simp [eqs]
theorem nes_e {s t : ByteArray} : nes (.string s) (.string t) K w Q = K (.bool (decide (s ≠ t))) w Q := by simp [nes]
theorem nc_e {p : Addr} : nc (.pointer (some p)) K w Q = K (.pointer (some p)) w Q := by simp [nc, okNil]
theorem fa_e {p : Addr} {n : Nat} : fa n (.pointer (some p)) K w Q = K (.pointer (some (p.add n))) w Q := by simp [fa]
theorem ld_e {p : Addr} : ld (.pointer (some p)) K w Q = ∃ v, w.cell? p = some v ∧ K v w Q := by simp [ld]
theorem st_e {p : Addr} : st (.pointer (some p)) v K0 w Q = ((w.cell? p).isSome = true ∧ w.frozen? p = false ∧ v.oneCell' = true ∧ K0 (w.setCell p v) Q) := by simp [st]
theorem al_e {t : TypeId} {cs : Array Value} : al t cs K w Q = K (.pointer (some ⟨w.heap.size, 0, none⟩)) (psh w (.cells cs t)) Q := rfl
theorem bx_e {t : TypeId} : bx t v K w Q = K (.pointer (some ⟨w.heap.size, 0, none⟩)) (psh w (.cells v.cells t)) Q := rfl
theorem ex_e {i : Nat} {vs : Array Value} : ex i (.tuple vs) K w Q = ∃ v, vs[i]? = some v ∧ K v w Q := by simp [ex]
theorem lnl_e {p : Option Addr} {l c : Nat} : lnl (.slice p l c) K w Q = K (.int .i64 l) w Q := by
  unfold lnl; apply propext; constructor
  · rintro ⟨p', l', c', h1, h⟩; cases h1; exact h
  · exact fun h => ⟨_, _, _, rfl, h⟩
theorem lns_e {s : ByteArray} : lns (.string s) K w Q = K (.int .i64 s.size) w Q := by simp [lns]
theorem ia_e {p : Addr} {n l c : Nat} : ia n (.slice (some p) l c) (.int k a) K w Q = (0 ≤ a ∧ a < l ∧ K (.pointer (some (p.add (a.toNat * n)))) w Q) := by
  unfold ia; apply propext; constructor
  · rintro ⟨p', l', c', k', j', h1, h2, h⟩; cases h1; cases h2; exact h
  · exact fun h => ⟨_, _, _, _, _, rfl, rfl, h⟩
theorem iaa_e {p : Addr} {n l : Nat} : iaa l n (.pointer (some p)) (.int k a) K w Q = (0 ≤ a ∧ a < l ∧ K (.pointer (some (p.add (a.toNat * n)))) w Q) := by
  unfold iaa; apply propext; constructor
  · rintro ⟨p', k', j', h1, h2, h⟩; cases h1; cases h2; exact h
  · exact fun h => ⟨_, _, _, rfl, rfl, h⟩
theorem ixs_e {s : ByteArray} : ixs (.string s) (.int k a) K w Q = (0 ≤ a ∧ ∃ c, s[a.toNat]? = some c ∧ K (.int .u8 (c.toNat : Int)) w Q) := by
  unfold ixs; apply propext; constructor
  · rintro ⟨s', k', j', c', h1, h2, h3, h4, h⟩; cases h1; cases h2; exact ⟨h3, c', h4, h⟩
  · exact fun h => ⟨_, _, _, h.2.choose, rfl, rfl, h.1, h.2.choose_spec⟩
theorem mif_e {t : TypeId} : mif t v K w Q = K (.iface t v) w Q := rfl
theorem mnm_e : mnm (.int k a) (.int k b) K w Q = K (.int k (if b < a then b else a)) w Q := by
  unfold mnm; apply propext; constructor
  · rintro ⟨k', a', b', h1, h2, h⟩; cases h1; cases h2; exact h
  · exact fun h => ⟨_, _, _, rfl, rfl, h⟩
theorem mxm_e : mxm (.int k a) (.int k b) K w Q = K (.int k (if a < b then b else a)) w Q := by
  unfold mxm; apply propext; constructor
  · rintro ⟨k', a', b', h1, h2, h⟩; cases h1; cases h2; exact h
  · exact fun h => ⟨_, _, _, rfl, rfl, h⟩
theorem asrt_e {t : TypeId} : asrt t (.iface t v) K w Q = K v w Q := by simp [asrt]
theorem idv_e : idv v K w Q = K v w Q := rfl
theorem cl_e {f : M} : cl f K w Q = f w (fun v w' => K v w' Q) := rfl
theorem cnd_e {t : Bool} : cnd (.bool t) A B w Q = (if t = true then A w Q else B w Q) := by cases t <;> simp [cnd]
theorem gd_e {t u : Bool} {A : (Value → M) → M} : gd (.bool t) u A K w Q = (if t = u then A K w Q else K undef w Q) := by
  cases t <;> cases u <;> simp [gd, gdB]
theorem gd_u {u : Bool} {A : (Value → M) → M} {K : Value → M} {w Q} : gd undef u A K w Q = K undef w Q := rfl
theorem gdu_e {t u : Bool} {A : M → M} : gdu (.bool t) u A K0 w Q = (if t = u then A K0 w Q else K0 w Q) := by
  cases t <;> cases u <;> simp [gdu, gdB]
theorem rt_e : rt v w Q = Q v w := rfl
theorem jn_e {α : Type} {F : α → M} {c : α} : jn F c w Q = F c w Q := rfl
theorem dr_q {X : M} : dr X w Q = X (drw w) Q := rfl
theorem kp_e {F : World → Prop} {X : M} : kp F X w Q = (F w ∧ X w Q) := rfl
theorem smr_e {P : Program} {s : Sem Value} : smr P s K w Q = ∃ v, s.run P w = .ok v w ∧ K v w Q := rfl
theorem Kld_e {p : Addr} : Kld (.pointer (some p)) v w = (w.cell? p = some v) := by simp [Kld]
theorem pk_t : pk (.bool true) x y K w Q = K x w Q := by simp [pk]
theorem pk_f : pk (.bool false) x y K w Q = K y w Q := by simp [pk]
theorem get4_0 {a b c d : Value} : (#[a, b, c, d] : Array Value)[0]? = some a := rfl
theorem get4_1 {a b c d : Value} : (#[a, b, c, d] : Array Value)[1]? = some b := rfl
theorem get4_2 {a b c d : Value} : (#[a, b, c, d] : Array Value)[2]? = some c := rfl
theorem get4_3 {a b c d : Value} : (#[a, b, c, d] : Array Value)[3]? = some d := rfl
theorem get3_0 {a b c : Value} : (#[a, b, c] : Array Value)[0]? = some a := rfl
theorem get3_1 {a b c : Value} : (#[a, b, c] : Array Value)[1]? = some b := rfl
theorem get3_2 {a b c : Value} : (#[a, b, c] : Array Value)[2]? = some c := rfl
theorem get2_0 {a b : Value} : (#[a, b] : Array Value)[0]? = some a := rfl
theorem get2_1 {a b : Value} : (#[a, b] : Array Value)[1]? = some b := rfl
theorem get1_0 {a : Value} : (#[a] : Array Value)[0]? = some a := rfl
end

/-! memory -/
section
variable {w : World} {o : Obj} {b n : Nat}
theorem size_psh : (psh w o).heap.size = w.heap.size + 1 := by simp [psh]
theorem size_setCell {p : Addr} {v : Value} : (w.setCell p v).heap.size = w.heap.size := by simp [World.setCell]
theorem blk_psh_new : (psh w o).heap[w.heap.size]? = some o := by
  show (w.heap.push o)[w.heap.size]? = some o
  simp
theorem blk_psh_old (h : b < w.heap.size) : (psh w o).heap[b]? = w.heap[b]? := by
  simp only [psh, Array.getElem?_push]; rw [if_neg (by omega)]
theorem cell_of_blk {c : Array Value} {t : TypeId} {fr : Nat × Nat} (h : w.heap[b]? = some (.cells c t fr)) : w.cell? ⟨b, n, none⟩ = c[n]? := by
  simp [World.cell?, h]
theorem cell_psh_new {c : Array Value} {t : TypeId} : (psh w (.cells c t)).cell? ⟨w.heap.size, n, none⟩ = c[n]? := cell_of_blk blk_psh_new
theorem cell_drw {p : Addr} : (drw w).cell? p = w.cell? p := rfl
theorem add_lit {m : Nat} : (⟨b, m, none⟩ : Addr).add n = ⟨b, m + n, none⟩ := by
  unfold Addr.add; by_cases h : n = 0
  · simp [h]
  · simp [h]
theorem rds_of_blk {c cs : Array Value} {t : TypeId} {fr : Nat × Nat} {m : Nat} (h : w.heap[b]? = some (.cells c t fr)) (hc : ∀ j v, cs[j]? = some v → c[m + j]? = some v) : rds w ⟨b, m, none⟩ cs := by
  intro j v hj
  rw [add_lit, cell_of_blk h]
  exact hc j v hj
/-- Below what was there the new world is as the old one. -/
theorem Below_psh {B : Nat} {a : World} (h : RowKit.Below B a w) (hB : B ≤ w.heap.size) : RowKit.Below B a (psh w o) :=
  h.trans ⟨rfl, rfl, rfl, by simp [psh], fun k hk => blk_psh_old (by omega)⟩
end
/-- the steps, all in one -/
theorem LL : type_of% (And.intro @bx_e (And.intro @al_e (And.intro @fa_e (And.intro @ld_e (And.intro @ad_e (And.intro @su_e (And.intro @mu_e (And.intro @lt_e (And.intro @le_e (And.intro @gt_e (And.intro @ge_e (And.intro @eqi_e (And.intro @nei_e (And.intro @qu_e (And.intro @re_e (And.intro @cv_e (And.intro @nt_e (And.intro @pk_t (And.intro @pk_f (And.intro @pk_e (And.intro @eqb_e (And.intro @neb_e (And.intro @nc_e (And.intro @ex_e (And.intro @lnl_e (And.intro @lns_e (And.intro @idv_e (And.intro @cl_e (And.intro @cnd_e (And.intro @gd_e (And.intro @gd_u (And.intro @gdu_e (And.intro @rt_e (And.intro @jn_e (And.intro @dr_q (And.intro @kp_e (And.intro @mnm_e (And.intro @mxm_e (And.intro @mif_e (And.intro @asrt_e (And.intro @eqs_e (@nes_e)))))))))))))))))))))))))))))))))))))))))) := And.intro @bx_e (And.intro @al_e (And.intro @fa_e (And.intro @ld_e (And.intro @ad_e (And.intro @su_e (And.intro @mu_e (And.intro @lt_e (And.intro @le_e (And.intro @gt_e (And.intro @ge_e (And.intro @eqi_e (And.intro @nei_e (And.intro @qu_e (And.intro @re_e (And.intro @cv_e (And.intro @nt_e (And.intro @pk_t (And.intro @pk_f (And.intro @pk_e (And.intro @eqb_e (And.intro @neb_e (And.intro @nc_e (And.intro @ex_e (And.intro @lnl_e (And.intro @lns_e (And.intro @idv_e (And.intro @cl_e (And.intro @cnd_e (And.intro @gd_e (And.intro @gd_u (And.intro @gdu_e (And.intro @rt_e (And.intro @jn_e (And.intro @dr_q (And.intro @kp_e (And.intro @mnm_e (And.intro @mxm_e (And.intro @mif_e (And.intro @asrt_e (And.intro @eqs_e (@nes_e)))))))))))))))))))))))))))))))))))))))))
/-- what is plain, all in one -/
theorem LM : type_of% (And.intro @add_lit (And.intro @cell_psh_new (And.intro @cell_drw (And.intro @get4_0 (And.intro @get4_1 (And.intro @get4_2 (And.intro @get4_3 (And.intro @get3_0 (And.intro @get3_1 (And.intro @get3_2 (And.intro @get2_0 (And.intro @get2_1 (And.intro @get1_0 (And.intro @Nat.zero_add (And.intro @Bool.not_true (And.intro @Bool.not_false (And.intro @Bool.false_eq_true (And.intro @Bool.true_eq_false (And.intro @decide_eq_true_eq (And.intro @Bool.not_eq_true' (And.intro @decide_eq_false_iff_not (And.intro @not_false_eq_true (And.intro @not_true_eq_false (And.intro @Bool.true_and (And.intro @Bool.and_true (And.intro @Bool.false_and (And.intro @Bool.and_false (@decide_not)))))))))))))))))))))))))))) := And.intro @add_lit (And.intro @cell_psh_new (And.intro @cell_drw (And.intro @get4_0 (And.intro @get4_1 (And.intro @get4_2 (And.intro @get4_3 (And.intro @get3_0 (And.intro @get3_1 (And.intro @get3_2 (And.intro @get2_0 (And.intro @get2_1 (And.intro @get1_0 (And.intro @Nat.zero_add (And.intro @Bool.not_true (And.intro @Bool.not_false (And.intro @Bool.false_eq_true (And.intro @Bool.true_eq_false (And.intro @decide_eq_true_eq (And.intro @Bool.not_eq_true' (And.intro @decide_eq_false_iff_not (And.intro @not_false_eq_true (And.intro @not_true_eq_false (And.intro @Bool.true_and (And.intro @Bool.and_true (And.intro @Bool.false_and (And.intro @Bool.and_false (@decide_not)))))))))))))))))))))))))))
end Sh
end Go.Proofs.YtongpnolikkknaaGreatDoor

namespace Go.Proofs.YtongpnolikkknaaGreatDoor
namespace Sh
open RowKit
/-- What the tables say of a slice type T with elements E: their zero, cells, bytes. -/
def slT (P : Program) (t e : TypeId) (z : Value) (size bytes : Nat) : Prop :=
  P.underlying t = some (.slice e) ∧ (P.info? e).map (fun i => (i.zero, i.size, i.bytes)) = some (some z, size, bytes)
theorem slT_info {P : Program} {t e : TypeId} {z : Value} {size bytes : Nat} (h : slT P t e z size bytes) : ∃ i, P.underlying t = some (.slice e) ∧ P.info? e = some i ∧ i.zero = some z ∧ i.size = size ∧ i.bytes = bytes := by
  obtain ⟨h1, h2⟩ := h
  cases hi : P.info? e with
  | none => simp [hi] at h2
  | some i => simp [hi] at h2; exact ⟨i, h1, rfl, h2.1, h2.2.1, h2.2.2⟩
section
variable {P : Program} {w : World} {Q : Value → World → Prop} {K : Value → M} {B : Nat}
/-- []T{x}: an element of one cell -/
theorem bsl1 {t e : TypeId} {z x : Value} {b : Nat} (h : slT P t e z 1 b) (hz : z.cells.size = 1) (hx : x.cells = #[x])
    (k : K (.slice (some ⟨w.heap.size, 0, none⟩) 1 1) (psh w (.cells #[x] e)) Q) : sm P (Instr.buildSlice t 1 #[(0, x)]) K w Q := by
  obtain ⟨i, h1, h2, h3, h4, h5⟩ := slT_info h
  refine ⟨_, _, ?_, k⟩
  have hc : ∃ y, z.cells = #[y] := by
    refine ⟨z.cells[0], ?_⟩
    apply Array.ext
    · simp [hz]
    · intro i h1 h2
      have : i = 0 := by omega
      subst this; rfl
  obtain ⟨y, hy⟩ := hc
  have hr : Array.range 1 = #[0] := rfl
  simp [Instr.buildSlice, underlying, h1, sizeOf, typeInfo, h2, h4, zeroValue, h3, hy, Instr.fill, hx, newRow, psh, hr]
theorem Below_grown {A : World} {w' : World} {v : Value} {e : TypeId} {size n : Nat} {xs : List Value} (h : Below B A w) (hown : w.ownsRow B e size v n xs) (hB : B ≤ w.heap.size) (hg : w.grownBy w' v.ownBlock) : Below B A w' :=
  h.grown hg hB (fun k hk => (hown.lt k hk).1)
end
/-- a slice of whole numbers, the call's own -/
def ownI (B : Nat) (e : TypeId) (k : IntKind) (w : World) (v : Value) (l : List Int) : Prop := w.ownsRow B e 1 v l.length (l.map (Value.int k))
theorem ownI_nil {B : Nat} {e : TypeId} {k : IntKind} {w : World} : ownI B e k w (.slice none 0 0) [] := World.ownsRow_nil w B e 1
theorem ownI_psh {B : Nat} {e : TypeId} {k : IntKind} {w : World} {v : Value} {l : List Int} (h : ownI B e k w v l) (o : Obj) : ownI B e k (psh w o) v l := World.ownsRow.alloc h o
theorem ownI_lit {B : Nat} {e : TypeId} {k : IntKind} {w : World} {l : List Int} (hB : B ≤ w.heap.size) (hm : l.length ≤ maxLen) :
    ownI B e k (psh w (.cells (l.map (Value.int k)).toArray e)) (.slice (some ⟨w.heap.size, 0, none⟩) l.length l.length) l := by
  have := World.ownsRow_lit (base := B) (e := e) (size := 1) w (l.map (Value.int k)).toArray l.length hB hm (by simp)
  exact this
theorem ownI_len {B : Nat} {e : TypeId} {k : IntKind} {w : World} {v : Value} {l : List Int} (h : ownI B e k w v l) : ∃ p c, v = .slice p l.length c ∧ (l ≠ [] → ∃ g, p = some ⟨g, 0, none⟩ ∧ B ≤ g ∧ g < w.heap.size) := by
  obtain ⟨h1, h2⟩ := h
  rcases h2 with ⟨rfl, h0⟩ | ⟨g, cap, cur, rfl, hg, hb, hn, hm, hs, ht⟩
  · exact ⟨none, 0, by rw [h0], fun hne => absurd (List.length_eq_zero_iff.1 h0) hne⟩
  · refine ⟨_, _, rfl, fun _ => ⟨g, rfl, hg, ?_⟩⟩
    rcases Nat.lt_or_ge g w.heap.size with h | h
    · exact h
    · simp [Array.getElem?_eq_none h] at hb
theorem ownI_cell {B : Nat} {e : TypeId} {k : IntKind} {w : World} {g c : Nat} {l : List Int} (h : ownI B e k w (.slice (some ⟨g, 0, none⟩) l.length c) l) (i : Nat) (hi : i < l.length) :
    w.cell? ⟨g, i, none⟩ = some (.int k l[i]) := by
  have := World.ownsRow.cellAt h i (by simpa using hi)
  rw [this]; simp [hi]
/-- the same list behind a world that has turned nothing of the call's own row -/
theorem ownI_below {B : Nat} {e : TypeId} {k : IntKind} {w w' : World} {v : Value} {l : List Int} (h : ownI B e k w v l) (hb : Below w.heap.size w w') : ownI B e k w' v l := by
  obtain ⟨h1, h2⟩ := h
  refine ⟨h1, ?_⟩
  rcases h2 with h2 | ⟨g, cap, cur, h3, hg, hb', rest⟩
  · exact .inl h2
  · refine .inr ⟨g, cap, cur, h3, hg, ?_, rest⟩
    rw [hb.block g ?_]; exact hb'
    rcases Nat.lt_or_ge g w.heap.size with h | h
    · exact h
    · simp [Array.getElem?_eq_none h] at hb'
theorem w64 {x : Int} (h0 : -9223372036854775808 ≤ x) (h1 : x ≤ 9223372036854775807) : IntKind.i64.wrap x = x := by
  unfold IntKind.wrap
  simp [IntKind.signed, IntKind.bits]
  omega
theorem wu64 {x : Int} (h0 : 0 ≤ x) (h1 : x ≤ 18446744073709551615) : IntKind.u64.wrap x = x := by
  unfold IntKind.wrap
  simp [IntKind.signed, IntKind.bits]
  omega
/-- a slice that reads as whole numbers -/
def rdI (k : IntKind) (w : World) (v : Value) (l : List Int) : Prop :=
  ∃ p c, v = .slice p l.length c ∧ ∀ i (h : i < l.length), ∃ a, p = some a ∧ w.cell? (a.add i) = some (.int k l[i])
theorem ownI_rd {B : Nat} {e : TypeId} {k : IntKind} {w : World} {v : Value} {l : List Int} (h : ownI B e k w v l) : rdI k w v l := by
  obtain ⟨p, c, rfl, hp⟩ := ownI_len h
  refine ⟨p, c, rfl, fun i hi => ?_⟩
  obtain ⟨g, rfl, hB, hs⟩ := hp (fun e => by rw [e] at hi; simp at hi)
  refine ⟨_, rfl, ?_⟩
  rw [add_lit, Nat.zero_add]
  exact ownI_cell h i hi
theorem cell_lt {w : World} {a : Addr} {v : Value} (h : w.cell? a = some v) : a.block < w.heap.size := by
  unfold World.cell? at h
  rcases Nat.lt_or_ge a.block w.heap.size with h' | h'
  · exact h'
  · simp [Array.getElem?_eq_none h'] at h
theorem cell_below {w w' : World} {a : Addr} {v : Value} (hb : Below w.heap.size w w') (h : w.cell? a = some v) : w'.cell? a = some v := by
  rw [hb.cell (cell_lt h)]; exact h
theorem rdI_below {k : IntKind} {w w' : World} {v : Value} {l : List Int} (hb : Below w.heap.size w w') (h : rdI k w v l) : rdI k w' v l := by
  obtain ⟨p, c, rfl, h⟩ := h
  refine ⟨p, c, rfl, fun i hi => ?_⟩
  obtain ⟨a, ha, hc⟩ := h i hi
  exact ⟨a, ha, cell_below hb hc⟩
theorem ia_ld {k j : IntKind} {w : World} {v : Value} {l : List Int} {i : Int} {K : Value → M} {Q : Value → World → Prop} (h : rdI k w v l) (h0 : 0 ≤ i) (h1 : i < l.length)
    (kk : ∀ (hh : i.toNat < l.length), K (.int k l[i.toNat]) w Q) : ia 1 v (.int j i) (fun p => ld p K) w Q := by
  obtain ⟨p, c, rfl, h⟩ := h
  obtain ⟨a, rfl, hc⟩ := h i.toNat (by omega)
  rw [ia_e]
  refine ⟨h0, h1, ?_⟩
  rw [Nat.mul_one, ld_e]
  exact ⟨_, hc, kk (by omega)⟩
theorem lnl_rd {k : IntKind} {w w1 : World} {v : Value} {l : List Int} {K : Value → M} {Q : Value → World → Prop} (h : rdI k w v l) (kk : K (.int .i64 l.length) w1 Q) : lnl v K w1 Q := by
  obtain ⟨p, c, rfl, h⟩ := h
  rw [lnl_e]; exact kk
/-! stores of several cells -/
theorem blk_setCell {w : World} {b o : Nat} {c : Array Value} {t : TypeId} {fr : Nat × Nat} {v : Value} (h : w.heap[b]? = some (.cells c t fr)) : (w.setCell ⟨b, o, none⟩ v).heap[b]? = some (.cells (c.setIfInBounds o v) t fr) := by
  simp [World.setCell, Array.getElem?_modify, h]
theorem blk_setCell_ne {w : World} {a : Addr} {k : Nat} {v : Value} (h : k ≠ a.block) : (w.setCell a v).heap[k]? = w.heap[k]? := Below.heap_setCell w a v k h
theorem frozen_zero {w : World} {b o : Nat} {c : Array Value} {t : TypeId} (h : w.heap[b]? = some (.cells c t (0, 0))) : w.frozen? ⟨b, o, none⟩ = false := by
  simp [World.frozen?, h]
structure Upd (b : Nat) (w w' : World) : Prop where
  os : w'.os = w.os
  tape : w'.tape = w.tape
  output : w'.output = w.output
  size : w'.heap.size = w.heap.size
  block : ∀ k, k ≠ b → w'.heap[k]? = w.heap[k]?
theorem Upd.below {b B : Nat} {w w' : World} (h : Upd b w w') (hB : B ≤ b) : Below B w w' := ⟨h.os, h.tape, h.output, by rw [h.size]; exact Nat.le_refl _, fun k hk => h.block k (by omega)⟩
theorem sts_blk {b o : Nat} {t : TypeId} : ∀ (l : List Value) (i : Nat) (w : World) (c : Array Value), w.heap[b]? = some (.cells c t (0, 0)) → o + i + l.length ≤ c.size → (∀ v ∈ l, v.oneCell' = true) →
    ∃ w' c', sts w ⟨b, o, none⟩ l i = some w' ∧ w'.heap[b]? = some (.cells c' t (0, 0)) ∧ c'.toList = c.toList.take (o + i) ++ l ++ c.toList.drop (o + i + l.length) ∧ Upd b w w' := by
  intro l
  induction l with
  | nil => intro i w c h hs h1; exact ⟨w, c, rfl, h, by simp, rfl, rfl, rfl, rfl, fun _ _ => rfl⟩
  | cons v l ih =>
    intro i w c h hs h1
    simp only [List.length_cons] at hs
    have hc : (w.cell? ⟨b, o + i, none⟩).isSome = true := by rw [cell_of_blk h]; simp; omega
    have hf : w.frozen? ⟨b, o + i, none⟩ = false := frozen_zero h
    have hv := h1 v (by simp)
    obtain ⟨w', c', e1, e2, e3, e4⟩ := ih (i + 1) (w.setCell ⟨b, o + i, none⟩ v) _ (blk_setCell h) (by simp; omega) (fun u hu => h1 u (by simp [hu]))
    refine ⟨w', c', ?_, e2, ?_, ?_⟩
    · simp only [sts, add_lit, hc, hf, hv, Bool.not_false, Bool.and_self, if_true]
      exact e1
    · rw [e3]
      simp only [Array.toList_setIfInBounds, List.length_cons]
      have hlt : o + i < c.toList.length := by simp; omega
      have q1 : (c.toList.set (o + i) v).take (o + (i + 1)) = c.toList.take (o + i) ++ [v] := by
        rw [← Nat.add_assoc, List.take_succ_eq_append_getElem (by simpa using hlt)]
        simp [List.take_set]
        rw [List.set_eq_of_length_le (by simp; omega)]
      have q2 : (c.toList.set (o + i) v).drop (o + (i + 1) + l.length) = c.toList.drop (o + i + (l.length + 1)) := by
        rw [List.drop_set_of_lt (by omega)]; congr 1; omega
      rw [q1, q2]; simp
    · exact ⟨e4.os, e4.tape, e4.output, by rw [e4.size, size_setCell], fun k hk => by rw [e4.block k hk]; exact blk_setCell_ne hk⟩
/-- a whole block stored anew -/
theorem stn_box {n b : Nat} {w : World} {c cs : Array Value} {t : TypeId} {K0 : M} {Q : Value → World → Prop} (h : w.heap[b]? = some (.cells c t (0, 0))) (hc : c.size = n) (hn : cs.size = n) (h1 : ∀ v ∈ cs.toList, v.oneCell' = true)
    (k : ∀ w', w'.heap[b]? = some (.cells cs t (0, 0)) → Upd b w w' → K0 w' Q) : stn n (.pointer (some ⟨b, 0, none⟩)) (.agg cs) K0 w Q := by
  obtain ⟨w', c', e1, e2, e3, e4⟩ := sts_blk (o := 0) cs.toList 0 w c h (by simp; omega) h1
  refine ⟨_, cs, w', rfl, rfl, hn, e1, k w' ?_ e4⟩
  have : c' = cs := by
    apply Array.ext'
    rw [e3]
    simp [hn, hc]
  rw [← this]; exact e2
theorem zero_run {P : Program} {t : TypeId} {z : Value} (hz : zeroIs P t z) (w : World) : (zeroValue t).run P w = .ok z w := by
  unfold zeroIs at hz
  cases hu : P.info? t with
  | none => simp [hu] at hz
  | some i => simp [hu] at hz; simp [zeroValue, typeInfo, hu, hz]
end Sh
end Go.Proofs.YtongpnolikkknaaGreatDoor

set_option maxRecDepth 20000
set_option maxHeartbeats 4000000
namespace Go.Proofs.YtongpnolikkknaaGreatDoor
open Sh
attribute [local irreducible] wpL anyG act jn lo gdB amb kp smr nc fa ld ldn st stn ad su mu qu re lt le gt ge eqi nei bws shl shr cat eqs nes lts gts eqb neb nt pk cv al bx ex fld fldn lnl lns ia iaa ixs sls sll sla mif mnm mxm mm asrt sm smu cl cc cf ci cnd gd gdu
theorem ae108 : arE Tryz.prog 108 20 1 = true := by kernel_rfl
theorem ae145 : arE Tryz.prog 145 64 1 = true := by kernel_rfl
theorem ag110 : isAg Tryz.prog 110 22 = true := by kernel_rfl
theorem ag145 : isAg Tryz.prog 145 64 = true := by kernel_rfl
theorem ag48 : isAg Tryz.prog 48 2 = true := by kernel_rfl
theorem ag92 : isAg Tryz.prog 92 3 = true := by kernel_rfl
theorem ai185 : (match Program.underlying Tryz.prog 185 with | some (.int _) => true | _ => false) = true := by kernel_rfl
theorem ai3 : (match Program.underlying Tryz.prog 3 with | some (.int _) => true | _ => false) = true := by kernel_rfl
theorem ai37 : (match Program.underlying Tryz.prog 37 with | some (.int _) => true | _ => false) = true := by kernel_rfl
theorem ai5 : (match Program.underlying Tryz.prog 5 with | some (.int _) => true | _ => false) = true := by kernel_rfl
theorem fo102_0 : fOff Tryz.prog 102 0 0 = true := by kernel_rfl
theorem fo110_0 : fOff Tryz.prog 110 0 0 = true := by kernel_rfl
theorem fo110_1 : fOff Tryz.prog 110 1 20 = true := by kernel_rfl
theorem fo110_2 : fOff Tryz.prog 110 2 21 = true := by kernel_rfl
theorem fo113_0 : fOff Tryz.prog 113 0 0 = true := by kernel_rfl
theorem fo113_1 : fOff Tryz.prog 113 1 1 = true := by kernel_rfl
theorem fo113_2 : fOff Tryz.prog 113 2 23 = true := by kernel_rfl
theorem fo113_3 : fOff Tryz.prog 113 3 24 = true := by kernel_rfl
theorem fo118_0 : fOff Tryz.prog 118 0 0 = true := by kernel_rfl
theorem fo118_1 : fOff Tryz.prog 118 1 1 = true := by kernel_rfl
theorem fo120_0 : fOff Tryz.prog 120 0 0 = true := by kernel_rfl
theorem fo120_1 : fOff Tryz.prog 120 1 1 = true := by kernel_rfl
theorem fo120_2 : fOff Tryz.prog 120 2 2 = true := by kernel_rfl
theorem fo122_0 : fOff Tryz.prog 122 0 0 = true := by kernel_rfl
theorem fo122_1 : fOff Tryz.prog 122 1 4 = true := by kernel_rfl
theorem fo124_0 : fOff Tryz.prog 124 0 0 = true := by kernel_rfl
theorem fo124_1 : fOff Tryz.prog 124 1 1 = true := by kernel_rfl
theorem fo124_2 : fOff Tryz.prog 124 2 2 = true := by kernel_rfl
theorem fo124_3 : fOff Tryz.prog 124 3 7 = true := by kernel_rfl
theorem fo124_4 : fOff Tryz.prog 124 4 8 = true := by kernel_rfl
theorem fo124_5 : fOff Tryz.prog 124 5 9 = true := by kernel_rfl
theorem fo130_0 : fOff Tryz.prog 130 0 0 = true := by kernel_rfl
theorem fo130_1 : fOff Tryz.prog 130 1 1 = true := by kernel_rfl
theorem fo130_2 : fOff Tryz.prog 130 2 2 = true := by kernel_rfl
theorem fo130_3 : fOff Tryz.prog 130 3 3 = true := by kernel_rfl
theorem fo133_0 : fOff Tryz.prog 133 0 0 = true := by kernel_rfl
theorem fo133_1 : fOff Tryz.prog 133 1 1 = true := by kernel_rfl
theorem fo133_2 : fOff Tryz.prog 133 2 2 = true := by kernel_rfl
theorem fo133_3 : fOff Tryz.prog 133 3 3 = true := by kernel_rfl
theorem fo151_0 : fOff Tryz.prog 151 0 0 = true := by kernel_rfl
theorem fo151_1 : fOff Tryz.prog 151 1 1 = true := by kernel_rfl
theorem fo151_2 : fOff Tryz.prog 151 2 2 = true := by kernel_rfl
theorem fo151_3 : fOff Tryz.prog 151 3 3 = true := by kernel_rfl
theorem fo206_0 : fOff Tryz.prog 206 0 0 = true := by kernel_rfl
theorem fo206_1 : fOff Tryz.prog 206 1 1 = true := by kernel_rfl
theorem fo48_0 : fOff Tryz.prog 48 0 0 = true := by kernel_rfl
theorem fo48_1 : fOff Tryz.prog 48 1 1 = true := by kernel_rfl
theorem fo92_0 : fOff Tryz.prog 92 0 0 = true := by kernel_rfl
theorem fo92_1 : fOff Tryz.prog 92 1 1 = true := by kernel_rfl
theorem fo92_2 : fOff Tryz.prog 92 2 2 = true := by kernel_rfl
theorem fo96_0 : fOff Tryz.prog 96 0 0 = true := by kernel_rfl
theorem fo96_1 : fOff Tryz.prog 96 1 1 = true := by kernel_rfl
theorem fo96_2 : fOff Tryz.prog 96 2 2 = true := by kernel_rfl
theorem fo96_3 : fOff Tryz.prog 96 3 3 = true := by kernel_rfl
theorem in185 : isInt Tryz.prog 185 .u64 = true := by kernel_rfl
theorem in3 : isInt Tryz.prog 3 .i64 = true := by kernel_rfl
theorem in37 : isInt Tryz.prog 37 .u64 = true := by kernel_rfl
theorem in5 : isInt Tryz.prog 5 .u8 = true := by kernel_rfl
theorem is100 : isSl Tryz.prog 100 = true := by kernel_rfl
theorem is111 : isSl Tryz.prog 111 = true := by kernel_rfl
theorem is127 : isSl Tryz.prog 127 = true := by kernel_rfl
theorem is138 : isSl Tryz.prog 138 = true := by kernel_rfl
theorem is149 : isSl Tryz.prog 149 = true := by kernel_rfl
theorem is22 : isSl Tryz.prog 22 = true := by kernel_rfl
theorem is42 : isSl Tryz.prog 42 = true := by kernel_rfl
theorem is49 : isSl Tryz.prog 49 = true := by kernel_rfl
theorem is86 : isSl Tryz.prog 86 = true := by kernel_rfl
theorem on100 : isOne Tryz.prog 100 = true := by kernel_rfl
theorem on107 : isOne Tryz.prog 107 = true := by kernel_rfl
theorem on111 : isOne Tryz.prog 111 = true := by kernel_rfl
theorem on116 : isOne Tryz.prog 116 = true := by kernel_rfl
theorem on149 : isOne Tryz.prog 149 = true := by kernel_rfl
theorem on25 : isOne Tryz.prog 25 = true := by kernel_rfl
theorem on26 : isOne Tryz.prog 26 = true := by kernel_rfl
theorem on3 : isOne Tryz.prog 3 = true := by kernel_rfl
theorem on4 : isOne Tryz.prog 4 = true := by kernel_rfl
theorem on5 : isOne Tryz.prog 5 = true := by kernel_rfl
theorem on67 : isOne Tryz.prog 67 = true := by kernel_rfl
theorem on9 : isOne Tryz.prog 9 = true := by kernel_rfl
theorem on94 : isOne Tryz.prog 94 = true := by kernel_rfl
theorem sc100 : isSc Tryz.prog 100 = true := by kernel_rfl
theorem sc107 : isSc Tryz.prog 107 = true := by kernel_rfl
theorem sc111 : isSc Tryz.prog 111 = true := by kernel_rfl
theorem sc115 : isSc Tryz.prog 115 = true := by kernel_rfl
theorem sc116 : isSc Tryz.prog 116 = true := by kernel_rfl
theorem sc127 : isSc Tryz.prog 127 = true := by kernel_rfl
theorem sc128 : isSc Tryz.prog 128 = true := by kernel_rfl
theorem sc149 : isSc Tryz.prog 149 = true := by kernel_rfl
theorem sc165 : isSc Tryz.prog 165 = true := by kernel_rfl
theorem sc25 : isSc Tryz.prog 25 = true := by kernel_rfl
theorem sc26 : isSc Tryz.prog 26 = true := by kernel_rfl
theorem sc29 : isSc Tryz.prog 29 = true := by kernel_rfl
theorem sc3 : isSc Tryz.prog 3 = true := by kernel_rfl
theorem sc4 : isSc Tryz.prog 4 = true := by kernel_rfl
theorem sc40 : isSc Tryz.prog 40 = true := by kernel_rfl
theorem sc5 : isSc Tryz.prog 5 = true := by kernel_rfl
theorem sc63 : isSc Tryz.prog 63 = true := by kernel_rfl
theorem sc67 : isSc Tryz.prog 67 = true := by kernel_rfl
theorem sc9 : isSc Tryz.prog 9 = true := by kernel_rfl
theorem sc94 : isSc Tryz.prog 94 = true := by kernel_rfl
theorem se100 : slE Tryz.prog 100 1 = true := by kernel_rfl
theorem se111 : slE Tryz.prog 111 22 = true := by kernel_rfl
theorem se127 : slE Tryz.prog 127 64 = true := by kernel_rfl
theorem se138 : slE Tryz.prog 138 1 = true := by kernel_rfl
theorem se149 : slE Tryz.prog 149 1 = true := by kernel_rfl
theorem se22 : slE Tryz.prog 22 1 = true := by kernel_rfl
theorem se42 : slE Tryz.prog 42 1 = true := by kernel_rfl
theorem se49 : slE Tryz.prog 49 2 = true := by kernel_rfl
theorem se86 : slE Tryz.prog 86 3 = true := by kernel_rfl
theorem st9 : isStr Tryz.prog 9 = true := by kernel_rfl
theorem ze110 : zeroIs Tryz.prog 110 (.agg #[(.int .u8 0), (.int .u8 0), (.int .u8 0), (.int .u8 0), (.int .u8 0), (.int .u8 0), (.int .u8 0), (.int .u8 0), (.int .u8 0), (.int .u8 0), (.int .u8 0), (.int .u8 0), (.int .u8 0), (.int .u8 0), (.int .u8 0), (.int .u8 0), (.int .u8 0), (.int .u8 0), (.int .u8 0), (.int .u8 0), (.string ⟨#[]⟩), (.map none)]) := by unfold zeroIs; kernel_rfl
theorem ze145 : zeroIs Tryz.prog 145 (.agg (Array.replicate 64 (.int .u8 0))) := by unfold zeroIs; kernel_rfl
theorem ze3 : zeroIs Tryz.prog 3 (.int .i64 0) := by unfold zeroIs; kernel_rfl
theorem ze48 : zeroIs Tryz.prog 48 (.agg #[(.int .i64 0), (.string ⟨#[]⟩)]) := by unfold zeroIs; kernel_rfl
theorem slt22 : slT Tryz.prog 22 3 (.int .i64 0) 1 8 := ⟨by kernel_rfl, by kernel_rfl⟩
theorem slt42 : slT Tryz.prog 42 5 (.int .u8 0) 1 1 := ⟨by kernel_rfl, by kernel_rfl⟩
theorem slt111 : slT Tryz.prog 111 110 (.agg #[(.int .u8 0), (.int .u8 0), (.int .u8 0), (.int .u8 0), (.int .u8 0), (.int .u8 0), (.int .u8 0), (.int .u8 0), (.int .u8 0), (.int .u8 0), (.int .u8 0), (.int .u8 0), (.int .u8 0), (.int .u8 0), (.int .u8 0), (.int .u8 0), (.int .u8 0), (.int .u8 0), (.int .u8 0), (.int .u8 0), (.string ⟨#[]⟩), (.map none)]) 22 48 := ⟨by kernel_rfl, by kernel_rfl⟩
theorem nn14 : (Tryz.f14.name == "runtime.NumGoroutine") = false := by kernel_rfl
theorem nn15 : (Tryz.f15.name == "runtime.NumGoroutine") = false := by kernel_rfl
theorem nn16 : (Tryz.f16.name == "runtime.NumGoroutine") = false := by kernel_rfl
theorem nn17 : (Tryz.f17.name == "runtime.NumGoroutine") = false := by kernel_rfl
theorem nn18 : (Tryz.f18.name == "runtime.NumGoroutine") = false := by kernel_rfl
theorem nn19 : (Tryz.f19.name == "runtime.NumGoroutine") = false := by kernel_rfl
theorem nn20 : (Tryz.f20.name == "runtime.NumGoroutine") = false := by kernel_rfl
theorem nn23 : (Tryz.f23.name == "runtime.NumGoroutine") = false := by kernel_rfl
theorem nn25 : (Tryz.f25.name == "runtime.NumGoroutine") = false := by kernel_rfl
theorem nn27 : (Tryz.f27.name == "runtime.NumGoroutine") = false := by kernel_rfl
theorem nn28 : (Tryz.f28.name == "runtime.NumGoroutine") = false := by kernel_rfl
theorem nn33 : (Tryz.f33.name == "runtime.NumGoroutine") = false := by kernel_rfl
theorem nn38 : (Tryz.f38.name == "runtime.NumGoroutine") = false := by kernel_rfl
theorem nn39 : (Tryz.f39.name == "runtime.NumGoroutine") = false := by kernel_rfl
theorem nn40 : (Tryz.f40.name == "runtime.NumGoroutine") = false := by kernel_rfl
theorem nn41 : (Tryz.f41.name == "runtime.NumGoroutine") = false := by kernel_rfl
theorem nn44 : (Tryz.f44.name == "runtime.NumGoroutine") = false := by kernel_rfl
theorem nn54 : (Tryz.f54.name == "runtime.NumGoroutine") = false := by kernel_rfl
theorem nn55 : (Tryz.f55.name == "runtime.NumGoroutine") = false := by kernel_rfl
theorem nn56 : (Tryz.f56.name == "runtime.NumGoroutine") = false := by kernel_rfl
theorem nn57 : (Tryz.f57.name == "runtime.NumGoroutine") = false := by kernel_rfl
theorem nn58 : (Tryz.f58.name == "runtime.NumGoroutine") = false := by kernel_rfl
theorem nn60 : (Tryz.f60.name == "runtime.NumGoroutine") = false := by kernel_rfl
theorem nn62 : (Tryz.f62.name == "runtime.NumGoroutine") = false := by kernel_rfl
theorem nn63 : (Tryz.f63.name == "runtime.NumGoroutine") = false := by kernel_rfl
theorem nn64 : (Tryz.f64.name == "runtime.NumGoroutine") = false := by kernel_rfl
theorem nn65 : (Tryz.f65.name == "runtime.NumGoroutine") = false := by kernel_rfl
theorem nn66 : (Tryz.f66.name == "runtime.NumGoroutine") = false := by kernel_rfl
theorem nn67 : (Tryz.f67.name == "runtime.NumGoroutine") = false := by kernel_rfl
theorem nn68 : (Tryz.f68.name == "runtime.NumGoroutine") = false := by kernel_rfl
theorem nn69 : (Tryz.f69.name == "runtime.NumGoroutine") = false := by kernel_rfl
theorem nn70 : (Tryz.f70.name == "runtime.NumGoroutine") = false := by kernel_rfl
theorem nn71 : (Tryz.f71.name == "runtime.NumGoroutine") = false := by kernel_rfl
theorem nn72 : (Tryz.f72.name == "runtime.NumGoroutine") = false := by kernel_rfl
theorem nn73 : (Tryz.f73.name == "runtime.NumGoroutine") = false := by kernel_rfl
theorem nn74 : (Tryz.f74.name == "runtime.NumGoroutine") = false := by kernel_rfl
theorem nn75 : (Tryz.f75.name == "runtime.NumGoroutine") = false := by kernel_rfl
theorem nn76 : (Tryz.f76.name == "runtime.NumGoroutine") = false := by kernel_rfl
theorem nn77 : (Tryz.f77.name == "runtime.NumGoroutine") = false := by kernel_rfl
theorem nn78 : (Tryz.f78.name == "runtime.NumGoroutine") = false := by kernel_rfl
theorem nn79 : (Tryz.f79.name == "runtime.NumGoroutine") = false := by kernel_rfl
theorem nn81 : (Tryz.f81.name == "runtime.NumGoroutine") = false := by kernel_rfl
theorem nn82 : (Tryz.f82.name == "runtime.NumGoroutine") = false := by kernel_rfl
theorem nn83 : (Tryz.f83.name == "runtime.NumGoroutine") = false := by kernel_rfl
theorem nn85 : (Tryz.f85.name == "runtime.NumGoroutine") = false := by kernel_rfl
theorem nn86 : (Tryz.f86.name == "runtime.NumGoroutine") = false := by kernel_rfl
theorem nn87 : (Tryz.f87.name == "runtime.NumGoroutine") = false := by kernel_rfl
theorem nn88 : (Tryz.f88.name == "runtime.NumGoroutine") = false := by kernel_rfl
theorem nn89 : (Tryz.f89.name == "runtime.NumGoroutine") = false := by kernel_rfl
theorem nn90 : (Tryz.f90.name == "runtime.NumGoroutine") = false := by kernel_rfl
theorem nn91 : (Tryz.f91.name == "runtime.NumGoroutine") = false := by kernel_rfl
theorem nn92 : (Tryz.f92.name == "runtime.NumGoroutine") = false := by kernel_rfl
theorem nn94 : (Tryz.f94.name == "runtime.NumGoroutine") = false := by kernel_rfl
theorem nn95 : (Tryz.f95.name == "runtime.NumGoroutine") = false := by kernel_rfl
theorem nn96 : (Tryz.f96.name == "runtime.NumGoroutine") = false := by kernel_rfl
theorem nn97 : (Tryz.f97.name == "runtime.NumGoroutine") = false := by kernel_rfl
theorem nn98 : (Tryz.f98.name == "runtime.NumGoroutine") = false := by kernel_rfl
theorem nn99 : (Tryz.f99.name == "runtime.NumGoroutine") = false := by kernel_rfl
theorem nn100 : (Tryz.f100.name == "runtime.NumGoroutine") = false := by kernel_rfl
theorem nn101 : (Tryz.f101.name == "runtime.NumGoroutine") = false := by kernel_rfl
theorem nn102 : (Tryz.f102.name == "runtime.NumGoroutine") = false := by kernel_rfl
theorem nn103 : (Tryz.f103.name == "runtime.NumGoroutine") = false := by kernel_rfl
theorem nn104 : (Tryz.f104.name == "runtime.NumGoroutine") = false := by kernel_rfl
theorem nn105 : (Tryz.f105.name == "runtime.NumGoroutine") = false := by kernel_rfl
theorem nn106 : (Tryz.f106.name == "runtime.NumGoroutine") = false := by kernel_rfl
theorem nn107 : (Tryz.f107.name == "runtime.NumGoroutine") = false := by kernel_rfl
theorem nn108 : (Tryz.f108.name == "runtime.NumGoroutine") = false := by kernel_rfl
theorem nn109 : (Tryz.f109.name == "runtime.NumGoroutine") = false := by kernel_rfl
theorem nn111 : (Tryz.f111.name == "runtime.NumGoroutine") = false := by kernel_rfl
theorem nn112 : (Tryz.f112.name == "runtime.NumGoroutine") = false := by kernel_rfl
theorem nn115 : (Tryz.f115.name == "runtime.NumGoroutine") = false := by kernel_rfl
theorem nn118 : (Tryz.f118.name == "runtime.NumGoroutine") = false := by kernel_rfl
theorem nn119 : (Tryz.f119.name == "runtime.NumGoroutine") = false := by kernel_rfl
theorem nn123 : (Tryz.f123.name == "runtime.NumGoroutine") = false := by kernel_rfl
theorem nn124 : (Tryz.f124.name == "runtime.NumGoroutine") = false := by kernel_rfl
theorem nn125 : (Tryz.f125.name == "runtime.NumGoroutine") = false := by kernel_rfl
theorem nn126 : (Tryz.f126.name == "runtime.NumGoroutine") = false := by kernel_rfl
theorem nn127 : (Tryz.f127.name == "runtime.NumGoroutine") = false := by kernel_rfl
theorem nn134 : (Tryz.f134.name == "runtime.NumGoroutine") = false := by kernel_rfl
theorem nn136 : (Tryz.f136.name == "runtime.NumGoroutine") = false := by kernel_rfl
theorem nn137 : (Tryz.f137.name == "runtime.NumGoroutine") = false := by kernel_rfl
theorem nn138 : (Tryz.f138.name == "runtime.NumGoroutine") = false := by kernel_rfl
theorem nn139 : (Tryz.f139.name == "runtime.NumGoroutine") = false := by kernel_rfl
theorem nn140 : (Tryz.f140.name == "runtime.NumGoroutine") = false := by kernel_rfl
theorem nn141 : (Tryz.f141.name == "runtime.NumGoroutine") = false := by kernel_rfl
theorem nn142 : (Tryz.f142.name == "runtime.NumGoroutine") = false := by kernel_rfl
theorem nn143 : (Tryz.f143.name == "runtime.NumGoroutine") = false := by kernel_rfl
theorem nn144 : (Tryz.f144.name == "runtime.NumGoroutine") = false := by kernel_rfl
theorem nn145 : (Tryz.f145.name == "runtime.NumGoroutine") = false := by kernel_rfl
theorem nn146 : (Tryz.f146.name == "runtime.NumGoroutine") = false := by kernel_rfl
theorem nn147 : (Tryz.f147.name == "runtime.NumGoroutine") = false := by kernel_rfl
theorem nn148 : (Tryz.f148.name == "runtime.NumGoroutine") = false := by kernel_rfl
theorem nn150 : (Tryz.f150.name == "runtime.NumGoroutine") = false := by kernel_rfl
theorem nn161 : (Tryz.f161.name == "runtime.NumGoroutine") = false := by kernel_rfl
theorem nn162 : (Tryz.f162.name == "runtime.NumGoroutine") = false := by kernel_rfl
theorem nn163 : (Tryz.f163.name == "runtime.NumGoroutine") = false := by kernel_rfl
theorem nn164 : (Tryz.f164.name == "runtime.NumGoroutine") = false := by kernel_rfl
end Go.Proofs.YtongpnolikkknaaGreatDoor

set_option maxRecDepth 20000
set_option maxHeartbeats 4000000
namespace Go.Proofs.YtongpnolikkknaaGreatDoor
open Sh
attribute [local irreducible] wpL anyG act jn lo gdB amb kp smr nc fa ld ldn st stn ad su mu qu re lt le gt ge eqi nei bws shl shr cat eqs nes lts gts eqb neb nt pk cv al bx ex fld fldn lnl lns ia iaa ixs sls sll sla mif mnm mxm mm asrt sm smu cl cc cf ci cnd gd gdu
def f76 (t0 t1 : Value) : M := dr <| idv t1 fun t4 => nc t4 fun t5 => fa 0 t5 fun t6 => ld t6 fun t7 => idv t1 fun t8 => nc t8 fun t9 => fa 1 t9 fun t10 => ld t10 fun t11 => idv t1 fun t12 => nc t12 fun t13 => fa 1 t13 fun t14 => ld t14 fun t15 => idv t1 fun t16 => nc t16 fun t17 => fa 0 t17 fun t18 => ld t18 fun t19 => nc t7 fun t20 => fa 1 t20 fun t21 => st t21 t15 <| nc t11 fun t22 => fa 0 t22 fun t23 => st t23 t19 <| nc t0 fun t25 => fa 4 t25 fun t26 => ld t26 fun t27 => su .i64 t27 (.int .i64 1) fun t28 => nc t0 fun t29 => fa 4 t29 fun t30 => st t30 t28 <| rt (.tuple #[])
theorem s76 (t0 t1 : Value) (w : World) (Q : Value → World → Prop) (h : f76 t0 t1 w Q) : Calls Tryz.prog 76 #[t0, t1] w (Rt Q) := by
  refine calls_of (l := [t0, t1]) Tryz.func76 rfl Tryz.ntmps76 (Nat.le_of_ble_eq_true rfl) ?_
  unfold f76 at h
  refine wp_seq ?_
  refine D_region (by decide +kernel) 22 rfl ?_
  replace h := dr_e h
  refine G_p 0 rfl (by decide +kernel) (Y_mv h) ?_
  intro v h
  refine G_p 1 rfl (by decide +kernel) (Y_nc h) ?_
  intro v h
  refine G_p 2 rfl (by decide +kernel) (Y_fa fo120_0 h) ?_
  intro v h
  refine G_r _ 3 rfl (by decide +kernel) (R_ld sc116 h) ?_
  intro v h
  refine G_p 4 rfl (by decide +kernel) (Y_mv h) ?_
  intro v h
  refine G_p 5 rfl (by decide +kernel) (Y_nc h) ?_
  intro v h
  refine G_p 6 rfl (by decide +kernel) (Y_fa fo120_1 h) ?_
  intro v h
  refine G_r _ 7 rfl (by decide +kernel) (R_ld sc116 h) ?_
  intro v h
  refine G_p 8 rfl (by decide +kernel) (Y_mv h) ?_
  intro v h
  refine G_p 9 rfl (by decide +kernel) (Y_nc h) ?_
  intro v h
  refine G_p 10 rfl (by decide +kernel) (Y_fa fo120_1 h) ?_
  intro v h
  refine G_r _ 11 rfl (by decide +kernel) (R_ld sc116 h) ?_
  intro v h
  refine G_p 12 rfl (by decide +kernel) (Y_mv h) ?_
  intro v h
  refine G_p 13 rfl (by decide +kernel) (Y_nc h) ?_
  intro v h
  refine G_p 14 rfl (by decide +kernel) (Y_fa fo120_0 h) ?_
  intro v h
  refine G_r _ 15 rfl (by decide +kernel) (R_ld sc116 h) ?_
  intro v h
  refine G_p 16 rfl (by decide +kernel) (Y_nc h) ?_
  intro v h
  refine G_p 17 rfl (by decide +kernel) (Y_fa fo120_1 h) ?_
  intro v h
  refine G_e 18 rfl (by decide +kernel) (P_st on116 h ?_)
  intro w h
  refine ⟨keepF_dep [15] (by decide +kernel) rfl (keepF_dep [11] (by decide +kernel) rfl (keepF_dep [7] (by decide +kernel) rfl (keepF_dep [3] (by decide +kernel) rfl keepF_nil))), ?_⟩
  refine G_p 19 rfl (by decide +kernel) (Y_nc h) ?_
  intro v h
  refine G_p 20 rfl (by decide +kernel) (Y_fa fo120_0 h) ?_
  intro v h
  refine G_e 21 rfl (by decide +kernel) (P_st on116 h ?_)
  intro w h
  refine ⟨keepF_dep [15] (by decide +kernel) rfl (keepF_dep [11] (by decide +kernel) rfl (keepF_dep [7] (by decide +kernel) rfl (keepF_dep [3] (by decide +kernel) rfl keepF_nil))), ?_⟩
  refine G_done (by decide +kernel) ?_
  refine E_n ?_
  refine L_region ?_
  refine L_mv ?_
  refine L_u (P_nc h) ?_
  intro v w h
  refine L_u (P_fa fo122_1 h) ?_
  intro v w h
  refine L_u (P_ld sc3 h) ?_
  intro v w h
  refine L_u (P_su h) ?_
  intro v w h
  refine L_u (P_nc h) ?_
  intro v w h
  refine L_u (P_fa fo122_1 h) ?_
  intro v w h
  refine L_u (P_st on3 h) ?_
  intro w h
  refine L_nil ?_
  show bodyPost Tryz.prog Tryz.f76 (Rt Q) .normal _ _
  exact post_tmps (ts := []) (.inl rfl) rfl h

def f107 (t0 t1 : Value) : M := dr <| idv t1 fun t4 => idv t1 fun t5 => idv t0 fun t6 => nc t6 fun t7 => fa 0 t7 fun t8 => idv t0 fun t9 => nc t9 fun t10 => fa 0 t10 fun t11 => fa 1 t11 fun t12 => ld t12 fun t13 => nc t4 fun t14 => fa 0 t14 fun t15 => st t15 t8 <| nc t5 fun t16 => fa 1 t16 fun t17 => st t17 t13 <| dr <| idv t1 fun t18 => nc t18 fun t19 => fa 0 t19 fun t20 => ld t20 fun t21 => idv t1 fun t22 => nc t22 fun t23 => fa 1 t23 fun t24 => ld t24 fun t25 => idv t1 fun t26 => idv t1 fun t27 => nc t21 fun t28 => fa 1 t28 fun t29 => st t29 t26 <| nc t25 fun t30 => fa 0 t30 fun t31 => st t31 t27 <| nc t0 fun t33 => fa 4 t33 fun t34 => ld t34 fun t35 => ad .i64 t35 (.int .i64 1) fun t36 => nc t0 fun t37 => fa 4 t37 fun t38 => st t38 t36 <| rt (.tuple #[])
theorem s107 (t0 t1 : Value) (w : World) (Q : Value → World → Prop) (h : f107 t0 t1 w Q) : Calls Tryz.prog 107 #[t0, t1] w (Rt Q) := by
  refine calls_of (l := [t0, t1]) Tryz.func107 rfl Tryz.ntmps107 (Nat.le_of_ble_eq_true rfl) ?_
  unfold f107 at h
  refine wp_seq ?_
  refine D_region (by decide +kernel) 16 rfl ?_
  replace h := dr_e h
  refine G_p 0 rfl (by decide +kernel) (Y_mv h) ?_
  intro v h
  refine G_p 1 rfl (by decide +kernel) (Y_mv h) ?_
  intro v h
  refine G_p 2 rfl (by decide +kernel) (Y_mv h) ?_
  intro v h
  refine G_p 3 rfl (by decide +kernel) (Y_nc h) ?_
  intro v h
  refine G_p 4 rfl (by decide +kernel) (Y_fa fo122_0 h) ?_
  intro v h
  refine G_p 5 rfl (by decide +kernel) (Y_mv h) ?_
  intro v h
  refine G_p 6 rfl (by decide +kernel) (Y_nc h) ?_
  intro v h
  refine G_p 7 rfl (by decide +kernel) (Y_fa fo122_0 h) ?_
  intro v h
  refine G_p 8 rfl (by decide +kernel) (Y_fa fo120_1 h) ?_
  intro v h
  refine G_r _ 9 rfl (by decide +kernel) (R_ld sc116 h) ?_
  intro v h
  refine G_p 10 rfl (by decide +kernel) (Y_nc h) ?_
  intro v h
  refine G_p 11 rfl (by decide +kernel) (Y_fa fo120_0 h) ?_
  intro v h
  refine G_e 12 rfl (by decide +kernel) (P_st on116 h ?_)
  intro w h
  refine ⟨keepF_dep [9] (by decide +kernel) rfl keepF_nil, ?_⟩
  refine G_p 13 rfl (by decide +kernel) (Y_nc h) ?_
  intro v h
  refine G_p 14 rfl (by decide +kernel) (Y_fa fo120_1 h) ?_
  intro v h
  refine G_e 15 rfl (by decide +kernel) (P_st on116 h ?_)
  intro w h
  refine ⟨keepF_dep [9] (by decide +kernel) rfl keepF_nil, ?_⟩
  refine G_done (by decide +kernel) ?_
  refine E_n ?_
  refine wp_seq ?_
  refine D_region (by decide +kernel) 16 rfl ?_
  replace h := dr_e h
  refine G_p 0 rfl (by decide +kernel) (Y_mv h) ?_
  intro v h
  refine G_p 1 rfl (by decide +kernel) (Y_nc h) ?_
  intro v h
  refine G_p 2 rfl (by decide +kernel) (Y_fa fo120_0 h) ?_
  intro v h
  refine G_r _ 3 rfl (by decide +kernel) (R_ld sc116 h) ?_
  intro v h
  refine G_p 4 rfl (by decide +kernel) (Y_mv h) ?_
  intro v h
  refine G_p 5 rfl (by decide +kernel) (Y_nc h) ?_
  intro v h
  refine G_p 6 rfl (by decide +kernel) (Y_fa fo120_1 h) ?_
  intro v h
  refine G_r _ 7 rfl (by decide +kernel) (R_ld sc116 h) ?_
  intro v h
  refine G_p 8 rfl (by decide +kernel) (Y_mv h) ?_
  intro v h
  refine G_p 9 rfl (by decide +kernel) (Y_mv h) ?_
  intro v h
  refine G_p 10 rfl (by decide +kernel) (Y_nc h) ?_
  intro v h
  refine G_p 11 rfl (by decide +kernel) (Y_fa fo120_1 h) ?_
  intro v h
  refine G_e 12 rfl (by decide +kernel) (P_st on116 h ?_)
  intro w h
  refine ⟨keepF_dep [7] (by decide +kernel) rfl (keepF_dep [3] (by decide +kernel) rfl keepF_nil), ?_⟩
  refine G_p 13 rfl (by decide +kernel) (Y_nc h) ?_
  intro v h
  refine G_p 14 rfl (by decide +kernel) (Y_fa fo120_0 h) ?_
  intro v h
  refine G_e 15 rfl (by decide +kernel) (P_st on116 h ?_)
  intro w h
  refine ⟨keepF_dep [7] (by decide +kernel) rfl (keepF_dep [3] (by decide +kernel) rfl keepF_nil), ?_⟩
  refine G_done (by decide +kernel) ?_
  refine E_n ?_
  refine L_region ?_
  refine L_mv ?_
  refine L_u (P_nc h) ?_
  intro v w h
  refine L_u (P_fa fo122_1 h) ?_
  intro v w h
  refine L_u (P_ld sc3 h) ?_
  intro v w h
  refine L_u (P_ad h) ?_
  intro v w h
  refine L_u (P_nc h) ?_
  intro v w h
  refine L_u (P_fa fo122_1 h) ?_
  intro v w h
  refine L_u (P_st on3 h) ?_
  intro w h
  refine L_nil ?_
  show bodyPost Tryz.prog Tryz.f107 (Rt Q) .normal _ _
  exact post_tmps (ts := []) (.inl rfl) rfl h

def f77 (t0 t1 : Value) : M := nc t0 fun t6 => fa 2 t6 fun t7 => cl (f107 t7 t1) fun t9 => dr <| idv t0 fun t10 => nc t10 fun t11 => fa 7 t11 fun t12 => ld t12 fun t13 => idv t1 fun t14 => nc t14 fun t15 => fa 2 t15 fun t16 => fa 0 t16 fun t17 => ld t17 fun t18 => idv t1 fun t19 => smu Tryz.prog (Instr.mapUpdate 115 t13 t18 t19) <| dr <| idv t0 fun t20 => nc t20 fun t21 => fa 2 t21 fun t22 => fa 4 t22 fun t23 => ld t23 fun t24 => idv t0 fun t25 => nc t25 fun t26 => fa 1 t26 fun t27 => ld t27 fun t28 => gt .i64 t24 t28 fun t29 => cnd t29 ( nc t0 fun t31 => fa 2 t31 fun t32 => fa 0 t32 fun t33 => fa 0 t33 fun t34 => ld t34 fun t35 => nc t0 fun t37 => fa 2 t37 fun t38 => cl (f76 t38 t35) fun t40 => dr <| idv t0 fun t41 => nc t41 fun t42 => fa 7 t42 fun t43 => ld t43 fun t44 => idv t35 fun t45 => nc t45 fun t46 => fa 2 t46 fun t47 => fa 0 t47 fun t48 => ld t48 fun t49 => sm Tryz.prog (Builtin.delete_ #[115, 3] 0 #[t44, t49]) fun _ => rt (.tuple #[]) ) ( rt (.tuple #[]) )
theorem s77 (t0 t1 : Value) (w : World) (Q : Value → World → Prop) (h : f77 t0 t1 w Q) : Calls Tryz.prog 77 #[t0, t1] w (Rt Q) := by
  refine calls_of (l := [t0, t1]) Tryz.func77 rfl Tryz.ntmps77 (Nat.le_of_ble_eq_true rfl) ?_
  unfold f77 at h
  refine wp_seq ?_
  refine L_region ?_
  refine L_mv ?_
  refine L_u (P_nc h) ?_
  intro v w h
  refine L_u (P_fa fo124_2 h) ?_
  intro v w h
  refine L_mv ?_
  refine L_u (N_cl Tryz.func107 rfl nn107 (fun w Q h => s107 _ _ w Q h) h) ?_
  intro v w h
  refine L_nil ?_
  refine E_n ?_
  refine wp_seq ?_
  refine D_region (by decide +kernel) 11 rfl ?_
  replace h := dr_e h
  refine G_p 0 rfl (by decide +kernel) (Y_mv h) ?_
  intro v h
  refine G_p 1 rfl (by decide +kernel) (Y_nc h) ?_
  intro v h
  refine G_p 2 rfl (by decide +kernel) (Y_fa fo124_3 h) ?_
  intro v h
  refine G_r _ 3 rfl (by decide +kernel) (R_ld sc115 h) ?_
  intro v h
  refine G_p 4 rfl (by decide +kernel) (Y_mv h) ?_
  intro v h
  refine G_p 5 rfl (by decide +kernel) (Y_nc h) ?_
  intro v h
  refine G_p 6 rfl (by decide +kernel) (Y_fa fo120_2 h) ?_
  intro v h
  refine G_p 7 rfl (by decide +kernel) (Y_fa fo118_0 h) ?_
  intro v h
  refine G_r _ 8 rfl (by decide +kernel) (R_ld sc3 h) ?_
  intro v h
  refine G_p 9 rfl (by decide +kernel) (Y_mv h) ?_
  intro v h
  refine G_e 10 rfl (by decide +kernel) (P_smu rfl h ?_)
  intro w h
  refine ⟨keepF_dep [8] (by decide +kernel) rfl (keepF_dep [3] (by decide +kernel) rfl keepF_nil), ?_⟩
  refine G_done (by decide +kernel) ?_
  refine E_n ?_
  refine wp_seq ?_
  refine D_region (by decide +kernel) 10 rfl ?_
  replace h := dr_e h
  refine G_p 0 rfl (by decide +kernel) (Y_mv h) ?_
  intro v h
  refine G_p 1 rfl (by decide +kernel) (Y_nc h) ?_
  intro v h
  refine G_p 2 rfl (by decide +kernel) (Y_fa fo124_2 h) ?_
  intro v h
  refine G_p 3 rfl (by decide +kernel) (Y_fa fo122_1 h) ?_
  intro v h
  refine G_r _ 4 rfl (by decide +kernel) (R_ld sc3 h) ?_
  intro v h
  refine G_p 5 rfl (by decide +kernel) (Y_mv h) ?_
  intro v h
  refine G_p 6 rfl (by decide +kernel) (Y_nc h) ?_
  intro v h
  refine G_p 7 rfl (by decide +kernel) (Y_fa fo124_1 h) ?_
  intro v h
  refine G_r _ 8 rfl (by decide +kernel) (R_ld sc3 h) ?_
  intro v h
  refine G_p 9 rfl (by decide +kernel) (Y_gt h) ?_
  intro v h
  refine G_done (by decide +kernel) ?_
  refine E_n ?_
  refine C_cnd h (fun h => ?_) (fun h => ?_)
  · refine wp_seq ?_
    refine L_region ?_
    refine L_mv ?_
    refine L_u (P_nc h) ?_
    intro v w h
    refine L_u (P_fa fo124_2 h) ?_
    intro v w h
    refine L_u (P_fa fo122_0 h) ?_
    intro v w h
    refine L_u (P_fa fo120_0 h) ?_
    intro v w h
    refine L_u (P_ld sc116 h) ?_
    intro v w h
    refine L_as ?_
    refine L_nil ?_
    refine E_n ?_
    refine wp_seq ?_
    refine L_region ?_
    refine L_mv ?_
    refine L_u (P_nc h) ?_
    intro v w h
    refine L_u (P_fa fo124_2 h) ?_
    intro v w h
    refine L_mv ?_
    refine L_u (N_cl Tryz.func76 rfl nn76 (fun w Q h => s76 _ _ w Q h) h) ?_
    intro v w h
    refine L_nil ?_
    refine E_n ?_
    refine D_region (by decide +kernel) 10 rfl ?_
    replace h := dr_e h
    refine G_p 0 rfl (by decide +kernel) (Y_mv h) ?_
    intro v h
    refine G_p 1 rfl (by decide +kernel) (Y_nc h) ?_
    intro v h
    refine G_p 2 rfl (by decide +kernel) (Y_fa fo124_3 h) ?_
    intro v h
    refine G_r _ 3 rfl (by decide +kernel) (R_ld sc115 h) ?_
    intro v h
    refine G_p 4 rfl (by decide +kernel) (Y_mv h) ?_
    intro v h
    refine G_p 5 rfl (by decide +kernel) (Y_nc h) ?_
    intro v h
    refine G_p 6 rfl (by decide +kernel) (Y_fa fo120_2 h) ?_
    intro v h
    refine G_p 7 rfl (by decide +kernel) (Y_fa fo118_0 h) ?_
    intro v h
    refine G_r _ 8 rfl (by decide +kernel) (R_ld sc3 h) ?_
    intro v h
    refine G_e 9 rfl (by decide +kernel) (N_bin rfl h ?_)
    intro w h
    refine ⟨keepF_dep [8] (by decide +kernel) rfl (keepF_dep [3] (by decide +kernel) rfl keepF_nil), ?_⟩
    refine G_done (by decide +kernel) ?_
    show bodyPost Tryz.prog Tryz.f77 (Rt Q) .normal _ _
    exact post_tmps (ts := []) (.inl rfl) rfl h
  · refine C_skip ?_
    show bodyPost Tryz.prog Tryz.f77 (Rt Q) .normal _ _
    exact post_tmps (ts := []) (.inl rfl) rfl h

def f78 (t0 t1 : Value) : M := smr Tryz.prog (do eqGuard .eql 40 (.tmp 7) (.const (.pointer none)) t0 (.pointer none); binOp .eql 40 t0 (.pointer none)) fun t8 => cnd t8 ( rt (.tuple #[(.string ⟨#[]⟩), (.int .i64 1)]) ) ( lt .i64 t1 (.int .i64 0) fun t11 => gd t11 false (idv t1) fun t13 => gd t11 false (idv t0) fun t14 => gd t11 false (nc t14) fun t15 => gd t11 false (fa 1 t15) fun t16 => gd t11 false (ld t16) fun t17 => gd t11 false (lnl t17) fun t18 => gd t11 false (ge .i64 t13 t18) fun t19 => pk t11 (.bool true) t19 fun t20 => cnd t20 ( rt (.tuple #[(.string ⟨#[]⟩), (.int .i64 7)]) ) ( nc t0 fun t22 => fa 1 t22 fun t23 => ld t23 fun t24 => ia 1 t24 t1 fun t26 => ld t26 fun t27 => rt (.tuple #[t27, (.int .i64 0)]) ) )
theorem s78 (t0 t1 : Value) (w : World) (Q : Value → World → Prop) (h : f78 t0 t1 w Q) : Calls Tryz.prog 78 #[t0, t1] w (Rt Q) := by
  refine calls_of (l := [t0, t1]) Tryz.func78 rfl Tryz.ntmps78 (Nat.le_of_ble_eq_true rfl) ?_
  unfold f78 at h
  refine wp_seq ?_
  refine L_region ?_
  refine L_as ?_
  refine L_as ?_
  refine L_nil ?_
  refine E_n ?_
  refine wp_seq ?_
  refine C_blk ?_
  refine wp_seq ?_
  refine L_region ?_
  refine L_mv ?_
  refine L_u (P_smr rfl h) ?_
  intro v w h
  refine L_as ?_
  refine L_nil ?_
  refine E_n ?_
  refine C_cnd h (fun h => ?_) (fun h => ?_)
  · refine wp_seq ?_
    refine L_region ?_
    refine L_as ?_
    refine L_as ?_
    refine L_nil ?_
    refine E_n ?_
    refine C_ret ?_
    show bodyPost Tryz.prog Tryz.f78 (Rt Q) .ret _ _
    exact post_tmps (ts := [4, 5]) (.inr rfl) rfl h
  · refine wp_seq ?_
    refine L_region ?_
    refine L_mv ?_
    refine L_u (P_lt h) ?_
    intro v w h
    refine L_mv ?_
    refine L_g (t := 12) h rfl rfl (fun c h => P_mv h c) ?_
    intro v w h
    refine L_g (t := 12) h rfl rfl (fun c h => P_mv h c) ?_
    intro v w h
    refine L_g (t := 12) h rfl rfl (fun c h => P_nc h c) ?_
    intro v w h
    refine L_g (t := 12) h rfl rfl (fun c h => P_fa fo133_1 h c) ?_
    intro v w h
    refine L_g (t := 12) h rfl rfl (fun c h => P_ld sc100 h c) ?_
    intro v w h
    refine L_g (t := 12) h rfl rfl (fun c h => P_lnl is100 h c) ?_
    intro v w h
    refine L_g (t := 12) h rfl rfl (fun c h => P_ge h c) ?_
    intro v w h
    refine L_u (P_pk h) ?_
    intro v w h
    refine L_as ?_
    refine L_nil ?_
    refine E_n ?_
    refine C_cnd h (fun h => ?_) (fun h => ?_)
    · refine wp_seq ?_
      refine L_region ?_
      refine L_as ?_
      refine L_as ?_
      refine L_nil ?_
      refine E_n ?_
      refine C_ret ?_
      show bodyPost Tryz.prog Tryz.f78 (Rt Q) .ret _ _
      exact post_tmps (ts := [4, 5]) (.inr rfl) rfl h
    · refine C_skip ?_
      refine B_n ?_
      refine E_n ?_
      refine wp_seq ?_
      refine L_region ?_
      refine L_mv ?_
      refine L_u (P_nc h) ?_
      intro v w h
      refine L_u (P_fa fo133_1 h) ?_
      intro v w h
      refine L_u (P_ld sc100 h) ?_
      intro v w h
      refine L_mv ?_
      refine L_u (P_ia se100 h) ?_
      intro v w h
      refine L_u (P_ld sc9 h) ?_
      intro v w h
      refine L_as ?_
      refine L_as ?_
      refine L_nil ?_
      refine E_n ?_
      refine C_ret ?_
      show bodyPost Tryz.prog Tryz.f78 (Rt Q) .ret _ _
      exact post_tmps (ts := [4, 5]) (.inr rfl) rfl h

def f27 (t0 t1 : Value) : M := smr Tryz.prog (do eqGuard .eql 29 (.tmp 10) (.const (.pointer none)) t0 (.pointer none); binOp .eql 29 t0 (.pointer none)) fun t11 => cnd t11 ( rt (.tuple #[(.string ⟨#[]⟩), (.int .i64 1)]) ) ( nc t0 fun t14 => fa 7 t14 fun t15 => ld t15 fun t16 => smr Tryz.prog (Instr.lookup 115 t16 t1 true) fun t18 => ex 0 t18 fun t19 => ex 1 t18 fun t20 => cnd t20 ( nc t0 fun t23 => fa 8 t23 fun t24 => ld t24 fun t25 => ad .i64 t25 (.int .i64 1) fun t26 => nc t0 fun t27 => fa 8 t27 fun t28 => st t28 t26 <| nc t0 fun t30 => fa 2 t30 fun t31 => cl (f76 t31 t19) fun t33 => cl (f77 t0 t19) fun t36 => nc t19 fun t38 => fa 2 t38 fun t39 => fa 1 t39 fun t40 => ld t40 fun t41 => rt (.tuple #[t41, (.int .i64 0)]) ) ( nc t0 fun t44 => fa 0 t44 fun t45 => ld t45 fun t46 => cl (f78 t46 t1) fun t48 => ex 0 t48 fun t49 => ex 1 t48 fun t50 => nei .i64 t50 (.int .i64 0) fun t52 => cnd t52 ( rt (.tuple #[(.string ⟨#[]⟩), t50]) ) ( nc t0 fun t55 => fa 9 t55 fun t56 => ld t56 fun t57 => ad .i64 t57 (.int .i64 1) fun t58 => nc t0 fun t59 => fa 9 t59 fun t60 => st t60 t58 <| smr Tryz.prog (Instr.build 118 #[(0, t1), (1, t49)]) fun t64 => smr Tryz.prog (Instr.build 120 #[(2, t64)]) fun t65 => bx 120 t65 fun t66 => cl (f77 t0 t66) fun t67 => rt (.tuple #[t49, (.int .i64 0)]) ) ) )
theorem s27 (t0 t1 : Value) (w : World) (Q : Value → World → Prop) (h : f27 t0 t1 w Q) : Calls Tryz.prog 27 #[t0, t1] w (Rt Q) := by
  refine calls_of (l := [t0, t1]) Tryz.func27 rfl Tryz.ntmps27 (Nat.le_of_ble_eq_true rfl) ?_
  unfold f27 at h
  refine wp_seq ?_
  refine L_region ?_
  refine L_as ?_
  refine L_as ?_
  refine L_nil ?_
  refine E_n ?_
  refine wp_seq ?_
  refine wp_seq ?_
  refine L_region ?_
  refine L_mv ?_
  refine L_u (P_smr rfl h) ?_
  intro v w h
  refine L_nil ?_
  refine E_n ?_
  refine C_cnd h (fun h => ?_) (fun h => ?_)
  · refine wp_seq ?_
    refine L_region ?_
    refine L_as ?_
    refine L_as ?_
    refine L_nil ?_
    refine E_n ?_
    refine C_ret ?_
    show bodyPost Tryz.prog Tryz.f27 (Rt Q) .ret _ _
    exact post_tmps (ts := [4, 5]) (.inr rfl) rfl h
  · refine C_skip ?_
    refine E_n ?_
    refine wp_seq ?_
    refine wp_seq ?_
    refine L_region ?_
    refine L_mv ?_
    refine L_u (P_nc h) ?_
    intro v w h
    refine L_u (P_fa fo124_3 h) ?_
    intro v w h
    refine L_u (P_ld sc115 h) ?_
    intro v w h
    refine L_mv ?_
    refine L_u (P_smr rfl h) ?_
    intro v w h
    refine L_mv ?_
    refine L_u (P_ex h) ?_
    intro v w h
    refine L_u (P_ex h) ?_
    intro v w h
    refine L_as ?_
    refine L_as ?_
    refine L_nil ?_
    refine E_n ?_
    refine wp_seq ?_
    refine L_region ?_
    refine L_mv ?_
    refine L_nil ?_
    refine E_n ?_
    refine C_cnd h (fun h => ?_) (fun h => ?_)
    · refine wp_seq ?_
      refine L_region ?_
      refine L_mv ?_
      refine L_u (P_nc h) ?_
      intro v w h
      refine L_u (P_fa fo124_4 h) ?_
      intro v w h
      refine L_u (P_ld sc3 h) ?_
      intro v w h
      refine L_u (P_ad h) ?_
      intro v w h
      refine L_u (P_nc h) ?_
      intro v w h
      refine L_u (P_fa fo124_4 h) ?_
      intro v w h
      refine L_u (P_st on3 h) ?_
      intro w h
      refine L_nil ?_
      refine E_n ?_
      refine wp_seq ?_
      refine L_region ?_
      refine L_mv ?_
      refine L_u (P_nc h) ?_
      intro v w h
      refine L_u (P_fa fo124_2 h) ?_
      intro v w h
      refine L_mv ?_
      refine L_u (N_cl Tryz.func76 rfl nn76 (fun w Q h => s76 _ _ w Q h) h) ?_
      intro v w h
      refine L_nil ?_
      refine E_n ?_
      refine wp_seq ?_
      refine L_region ?_
      refine L_mv ?_
      refine L_mv ?_
      refine L_u (N_cl Tryz.func77 rfl nn77 (fun w Q h => s77 _ _ w Q h) h) ?_
      intro v w h
      refine L_nil ?_
      refine E_n ?_
      refine wp_seq ?_
      refine L_region ?_
      refine L_mv ?_
      refine L_u (P_nc h) ?_
      intro v w h
      refine L_u (P_fa fo120_2 h) ?_
      intro v w h
      refine L_u (P_fa fo118_1 h) ?_
      intro v w h
      refine L_u (P_ld sc9 h) ?_
      intro v w h
      refine L_as ?_
      refine L_as ?_
      refine L_nil ?_
      refine E_n ?_
      refine C_ret ?_
      show bodyPost Tryz.prog Tryz.f27 (Rt Q) .ret _ _
      exact post_tmps (ts := [4, 5]) (.inr rfl) rfl h
    · refine C_skip ?_
      refine E_n ?_
      refine wp_seq ?_
      refine L_region ?_
      refine L_mv ?_
      refine L_u (P_nc h) ?_
      intro v w h
      refine L_u (P_fa fo124_0 h) ?_
      intro v w h
      refine L_u (P_ld sc40 h) ?_
      intro v w h
      refine L_mv ?_
      refine L_u (N_cl Tryz.func78 rfl nn78 (fun w Q h => s78 _ _ w Q h) h) ?_
      intro v w h
      refine L_mv ?_
      refine L_u (P_ex h) ?_
      intro v w h
      refine L_u (P_ex h) ?_
      intro v w h
      refine L_as ?_
      refine L_as ?_
      refine L_nil ?_
      refine E_n ?_
      refine wp_seq ?_
      refine wp_seq ?_
      refine L_region ?_
      refine L_mv ?_
      refine L_u (P_nei h) ?_
      intro v w h
      refine L_nil ?_
      refine E_n ?_
      refine C_cnd h (fun h => ?_) (fun h => ?_)
      · refine wp_seq ?_
        refine L_region ?_
        refine L_mv ?_
        refine L_as ?_
        refine L_as ?_
        refine L_nil ?_
        refine E_n ?_
        refine C_ret ?_
        show bodyPost Tryz.prog Tryz.f27 (Rt Q) .ret _ _
        exact post_tmps (ts := [4, 5]) (.inr rfl) rfl h
      · refine C_skip ?_
        refine E_n ?_
        refine wp_seq ?_
        refine L_region ?_
        refine L_mv ?_
        refine L_u (P_nc h) ?_
        intro v w h
        refine L_u (P_fa fo124_5 h) ?_
        intro v w h
        refine L_u (P_ld sc3 h) ?_
        intro v w h
        refine L_u (P_ad h) ?_
        intro v w h
        refine L_u (P_nc h) ?_
        intro v w h
        refine L_u (P_fa fo124_5 h) ?_
        intro v w h
        refine L_u (P_st on3 h) ?_
        intro w h
        refine L_nil ?_
        refine E_n ?_
        refine wp_seq ?_
        refine L_region ?_
        refine L_mv ?_
        refine L_mv ?_
        refine L_mv ?_
        refine L_u (N_bld h) ?_
        intro v w h
        refine L_u (N_bld h) ?_
        intro v w h
        refine L_u (P_bx h) ?_
        intro v w h
        refine L_u (N_cl Tryz.func77 rfl nn77 (fun w Q h => s77 _ _ w Q h) h) ?_
        intro v w h
        refine L_nil ?_
        refine E_n ?_
        refine wp_seq ?_
        refine L_region ?_
        refine L_mv ?_
        refine L_as ?_
        refine L_as ?_
        refine L_nil ?_
        refine E_n ?_
        refine C_ret ?_
        show bodyPost Tryz.prog Tryz.f27 (Rt Q) .ret _ _
        exact post_tmps (ts := [4, 5]) (.inr rfl) rfl h

def f16 (t0 : Value) : M := smr Tryz.prog (do eqGuard .eql 29 (.tmp 7) (.const (.pointer none)) t0 (.pointer none); binOp .eql 29 t0 (.pointer none)) fun t8 => cnd t8 ( rt (.tuple #[(.pointer none), (.int .i64 1)]) ) ( cl (f27 t0 (.int .i64 0)) fun t11 => ex 0 t11 fun t12 => ex 1 t11 fun t13 => nei .i64 t13 (.int .i64 0) fun t15 => cnd t15 ( rt (.tuple #[(.pointer none), t13]) ) ( sls t12 (some (.int .i64 20)) none fun t19 => mm fun t20 => smr Tryz.prog (Instr.build 110 #[(1, t19), (2, t20)]) fun t21 => smr Tryz.prog (Instr.build 113 #[(0, t0), (1, t21)]) fun t22 => bx 113 t22 fun t23 => nc t23 fun t25 => fa 1 t25 fun t26 => fa 0 t26 fun t27 => sla 20 1 t27 none none fun t28 => sm Tryz.prog (Builtin.copy_ #[42, 9] 3 #[t28, t12]) fun t30 => rt (.tuple #[t23, (.int .i64 0)]) ) )
theorem s16 (t0 : Value) (w : World) (Q : Value → World → Prop) (h : f16 t0 w Q) : Calls Tryz.prog 16 #[t0] w (Rt Q) := by
  refine calls_of (l := [t0]) Tryz.func16 rfl Tryz.ntmps16 (Nat.le_of_ble_eq_true rfl) ?_
  unfold f16 at h
  refine wp_seq ?_
  refine L_region ?_
  refine L_as ?_
  refine L_as ?_
  refine L_nil ?_
  refine E_n ?_
  refine wp_seq ?_
  refine wp_seq ?_
  refine L_region ?_
  refine L_mv ?_
  refine L_u (P_smr rfl h) ?_
  intro v w h
  refine L_nil ?_
  refine E_n ?_
  refine C_cnd h (fun h => ?_) (fun h => ?_)
  · refine wp_seq ?_
    refine L_region ?_
    refine L_as ?_
    refine L_as ?_
    refine L_nil ?_
    refine E_n ?_
    refine C_ret ?_
    show bodyPost Tryz.prog Tryz.f16 (Rt Q) .ret _ _
    exact post_tmps (ts := [2, 3]) (.inr rfl) rfl h
  · refine C_skip ?_
    refine E_n ?_
    refine wp_seq ?_
    refine L_region ?_
    refine L_mv ?_
    refine L_u (N_cl Tryz.func27 rfl nn27 (fun w Q h => s27 _ _ w Q h) h) ?_
    intro v w h
    refine L_mv ?_
    refine L_u (P_ex h) ?_
    intro v w h
    refine L_u (P_ex h) ?_
    intro v w h
    refine L_as ?_
    refine L_as ?_
    refine L_nil ?_
    refine E_n ?_
    refine wp_seq ?_
    refine wp_seq ?_
    refine L_region ?_
    refine L_mv ?_
    refine L_u (P_nei h) ?_
    intro v w h
    refine L_nil ?_
    refine E_n ?_
    refine C_cnd h (fun h => ?_) (fun h => ?_)
    · refine wp_seq ?_
      refine L_region ?_
      refine L_mv ?_
      refine L_as ?_
      refine L_as ?_
      refine L_nil ?_
      refine E_n ?_
      refine C_ret ?_
      show bodyPost Tryz.prog Tryz.f16 (Rt Q) .ret _ _
      exact post_tmps (ts := [2, 3]) (.inr rfl) rfl h
    · refine C_skip ?_
      refine E_n ?_
      refine wp_seq ?_
      refine L_region ?_
      refine L_mv ?_
      refine L_mv ?_
      refine L_u (P_sls st9 h) ?_
      intro v w h
      refine L_u (P_mm h) ?_
      intro v w h
      refine L_u (N_bld h) ?_
      intro v w h
      refine L_u (N_bld h) ?_
      intro v w h
      refine L_u (P_bx h) ?_
      intro v w h
      refine L_as ?_
      refine L_nil ?_
      refine E_n ?_
      refine wp_seq ?_
      refine L_region ?_
      refine L_mv ?_
      refine L_u (P_nc h) ?_
      intro v w h
      refine L_u (P_fa fo113_1 h) ?_
      intro v w h
      refine L_u (P_fa fo110_0 h) ?_
      intro v w h
      refine L_u (P_sla ae108 h) ?_
      intro v w h
      refine L_mv ?_
      refine L_u (N_bi rfl h) ?_
      intro v w h
      refine L_nil ?_
      refine E_n ?_
      refine wp_seq ?_
      refine L_region ?_
      refine L_mv ?_
      refine L_as ?_
      refine L_as ?_
      refine L_nil ?_
      refine E_n ?_
      refine C_ret ?_
      show bodyPost Tryz.prog Tryz.f16 (Rt Q) .ret _ _
      exact post_tmps (ts := [2, 3]) (.inr rfl) rfl h

def f75 (t0 : Value) : M := dr <| idv t0 fun t2 => idv t0 fun t3 => idv t0 fun t4 => nc t4 fun t5 => fa 0 t5 fun t6 => idv t0 fun t7 => nc t7 fun t8 => fa 0 t8 fun t9 => nc t2 fun t10 => fa 0 t10 fun t11 => fa 0 t11 fun t12 => st t12 t6 <| nc t3 fun t13 => fa 0 t13 fun t14 => fa 1 t14 fun t15 => st t15 t9 <| rt (.tuple #[])
theorem s75 (t0 : Value) (w : World) (Q : Value → World → Prop) (h : f75 t0 w Q) : Calls Tryz.prog 75 #[t0] w (Rt Q) := by
  refine calls_of (l := [t0]) Tryz.func75 rfl Tryz.ntmps75 (Nat.le_of_ble_eq_true rfl) ?_
  unfold f75 at h
  refine D_region (by decide +kernel) 16 rfl ?_
  replace h := dr_e h
  refine G_p 0 rfl (by decide +kernel) (Y_mv h) ?_
  intro v h
  refine G_p 1 rfl (by decide +kernel) (Y_mv h) ?_
  intro v h
  refine G_p 2 rfl (by decide +kernel) (Y_mv h) ?_
  intro v h
  refine G_p 3 rfl (by decide +kernel) (Y_nc h) ?_
  intro v h
  refine G_p 4 rfl (by decide +kernel) (Y_fa fo122_0 h) ?_
  intro v h
  refine G_p 5 rfl (by decide +kernel) (Y_mv h) ?_
  intro v h
  refine G_p 6 rfl (by decide +kernel) (Y_nc h) ?_
  intro v h
  refine G_p 7 rfl (by decide +kernel) (Y_fa fo122_0 h) ?_
  intro v h
  refine G_p 8 rfl (by decide +kernel) (Y_nc h) ?_
  intro v h
  refine G_p 9 rfl (by decide +kernel) (Y_fa fo122_0 h) ?_
  intro v h
  refine G_p 10 rfl (by decide +kernel) (Y_fa fo120_0 h) ?_
  intro v h
  refine G_e 11 rfl (by decide +kernel) (P_st on116 h ?_)
  intro w h
  refine ⟨keepF_nil, ?_⟩
  refine G_p 12 rfl (by decide +kernel) (Y_nc h) ?_
  intro v h
  refine G_p 13 rfl (by decide +kernel) (Y_fa fo122_0 h) ?_
  intro v h
  refine G_p 14 rfl (by decide +kernel) (Y_fa fo120_1 h) ?_
  intro v h
  refine G_e 15 rfl (by decide +kernel) (P_st on116 h ?_)
  intro w h
  refine ⟨keepF_nil, ?_⟩
  refine G_done (by decide +kernel) ?_
  show bodyPost Tryz.prog Tryz.f75 (Rt Q) .normal _ _
  exact post_tmps (ts := []) (.inl rfl) rfl h

def f23 (t0 t1 : Value) : M := smr Tryz.prog (do eqGuard .eql 40 (.tmp 6) (.const (.pointer none)) t0 (.pointer none); binOp .eql 40 t0 (.pointer none)) fun t7 => cnd t7 ( rt (.pointer none) ) ( mxm t1 (.int .i64 0) fun t10 => mnm t10 (.int .i64 64) fun t11 => mm fun t12 => smr Tryz.prog (Instr.build 124 #[(0, t0), (1, t11), (3, t12)]) fun t13 => bx 124 t13 fun t14 => nc t14 fun t16 => fa 2 t16 fun t17 => cl (f75 t17) fun t18 => rt t14 )
theorem s23 (t0 t1 : Value) (w : World) (Q : Value → World → Prop) (h : f23 t0 t1 w Q) : Calls Tryz.prog 23 #[t0, t1] w (Rt Q) := by
  refine calls_of (l := [t0, t1]) Tryz.func23 rfl Tryz.ntmps23 (Nat.le_of_ble_eq_true rfl) ?_
  unfold f23 at h
  refine wp_seq ?_
  refine L_region ?_
  refine L_as ?_
  refine L_nil ?_
  refine E_n ?_
  refine wp_seq ?_
  refine wp_seq ?_
  refine L_region ?_
  refine L_mv ?_
  refine L_u (P_smr rfl h) ?_
  intro v w h
  refine L_nil ?_
  refine E_n ?_
  refine C_cnd h (fun h => ?_) (fun h => ?_)
  · refine wp_seq ?_
    refine L_region ?_
    refine L_as ?_
    refine L_nil ?_
    refine E_n ?_
    refine C_ret ?_
    show bodyPost Tryz.prog Tryz.f23 (Rt Q) .ret _ _
    exact post_tmps (ts := [4]) (.inr rfl) rfl h
  · refine C_skip ?_
    refine E_n ?_
    refine wp_seq ?_
    refine L_region ?_
    refine L_mv ?_
    refine L_mv ?_
    refine L_u (P_mxm (t := 0) h) ?_
    intro v w h
    refine L_u (P_mnm (t := 0) h) ?_
    intro v w h
    refine L_u (P_mm h) ?_
    intro v w h
    refine L_u (N_bld h) ?_
    intro v w h
    refine L_u (P_bx h) ?_
    intro v w h
    refine L_as ?_
    refine L_nil ?_
    refine E_n ?_
    refine wp_seq ?_
    refine L_region ?_
    refine L_mv ?_
    refine L_u (P_nc h) ?_
    intro v w h
    refine L_u (P_fa fo124_2 h) ?_
    intro v w h
    refine L_u (N_cl Tryz.func75 rfl nn75 (fun w Q h => s75 _ w Q h) h) ?_
    intro v w h
    refine L_nil ?_
    refine E_n ?_
    refine wp_seq ?_
    refine L_region ?_
    refine L_mv ?_
    refine L_as ?_
    refine L_nil ?_
    refine E_n ?_
    refine C_ret ?_
    show bodyPost Tryz.prog Tryz.f23 (Rt Q) .ret _ _
    exact post_tmps (ts := [4]) (.inr rfl) rfl h

def f38 (t0 : Value) : M := mxm t0 (.int .i64 0) fun t4 => mnm t4 (.int .i64 4096) fun t5 => sm Tryz.prog (Instr.makeSlice 127 t5 t5) fun t6 => mm fun t7 => smr Tryz.prog (Instr.build 130 #[(0, t6), (1, t7), (3, (.int .i64 4611686018427387904))]) fun t8 => bx 130 t8 fun t9 => rt t9
theorem s38 (t0 : Value) (w : World) (Q : Value → World → Prop) (h : f38 t0 w Q) : Calls Tryz.prog 38 #[t0] w (Rt Q) := by
  refine calls_of (l := [t0]) Tryz.func38 rfl Tryz.ntmps38 (Nat.le_of_ble_eq_true rfl) ?_
  unfold f38 at h
  refine wp_seq ?_
  refine L_region ?_
  refine L_as ?_
  refine L_nil ?_
  refine E_n ?_
  refine wp_seq ?_
  refine L_region ?_
  refine L_mv ?_
  refine L_u (P_mxm (t := 0) h) ?_
  intro v w h
  refine L_u (P_mnm (t := 0) h) ?_
  intro v w h
  refine L_u (P_sm rfl h) ?_
  intro v w h
  refine L_u (P_mm h) ?_
  intro v w h
  refine L_u (N_bld h) ?_
  intro v w h
  refine L_u (P_bx h) ?_
  intro v w h
  refine L_as ?_
  refine L_nil ?_
  refine E_n ?_
  refine C_ret ?_
  show bodyPost Tryz.prog Tryz.f38 (Rt Q) .ret _ _
  exact post_tmps (ts := [2]) (.inr rfl) rfl h

def f81 (t0 t1 : Value) : M := mu .i64 (.int .i64 4) t0 fun t6 => ad .i64 (.int .i64 126) t6 fun t7 => ad .i64 t7 t1 fun t9 => rt t9
theorem s81 (t0 t1 : Value) (w : World) (Q : Value → World → Prop) (h : f81 t0 t1 w Q) : Calls Tryz.prog 81 #[t0, t1] w (Rt Q) := by
  refine calls_of (l := [t0, t1]) Tryz.func81 rfl Tryz.ntmps81 (Nat.le_of_ble_eq_true rfl) ?_
  unfold f81 at h
  refine wp_seq ?_
  refine L_region ?_
  refine L_as ?_
  refine L_nil ?_
  refine E_n ?_
  refine wp_seq ?_
  refine L_region ?_
  refine L_mv ?_
  refine L_u (P_mu h) ?_
  intro v w h
  refine L_u (P_ad h) ?_
  intro v w h
  refine L_mv ?_
  refine L_u (P_ad h) ?_
  intro v w h
  refine L_as ?_
  refine L_nil ?_
  refine E_n ?_
  refine C_ret ?_
  show bodyPost Tryz.prog Tryz.f81 (Rt Q) .ret _ _
  exact post_tmps (ts := [4]) (.inr rfl) rfl h

def f39 (t0 : Value) : M := cl (f81 t0 (.int .i64 0)) fun t4 => rt t4
theorem s39 (t0 : Value) (w : World) (Q : Value → World → Prop) (h : f39 t0 w Q) : Calls Tryz.prog 39 #[t0] w (Rt Q) := by
  refine calls_of (l := [t0]) Tryz.func39 rfl Tryz.ntmps39 (Nat.le_of_ble_eq_true rfl) ?_
  unfold f39 at h
  refine wp_seq ?_
  refine L_region ?_
  refine L_as ?_
  refine L_nil ?_
  refine E_n ?_
  refine wp_seq ?_
  refine L_region ?_
  refine L_mv ?_
  refine L_u (N_cl Tryz.func81 rfl nn81 (fun w Q h => s81 _ _ w Q h) h) ?_
  intro v w h
  refine L_as ?_
  refine L_nil ?_
  refine E_n ?_
  refine C_ret ?_
  show bodyPost Tryz.prog Tryz.f39 (Rt Q) .ret _ _
  exact post_tmps (ts := [2]) (.inr rfl) rfl h

def f82 (t0 : Value) : M := smr Tryz.prog (do eqGuard .eql 63 (.tmp 3) (.const (.pointer none)) t0 (.pointer none); binOp .eql 63 t0 (.pointer none)) fun t4 => cnd t4 ( rt (.int .i64 0) ) ( nc t0 fun t6 => fa 0 t6 fun t7 => ld t7 fun t8 => lnl t8 fun t9 => rt t9 )
theorem s82 (t0 : Value) (w : World) (Q : Value → World → Prop) (h : f82 t0 w Q) : Calls Tryz.prog 82 #[t0] w (Rt Q) := by
  refine calls_of (l := [t0]) Tryz.func82 rfl Tryz.ntmps82 (Nat.le_of_ble_eq_true rfl) ?_
  unfold f82 at h
  refine wp_seq ?_
  refine L_region ?_
  refine L_as ?_
  refine L_nil ?_
  refine E_n ?_
  refine wp_seq ?_
  refine wp_seq ?_
  refine L_region ?_
  refine L_mv ?_
  refine L_u (P_smr rfl h) ?_
  intro v w h
  refine L_nil ?_
  refine E_n ?_
  refine C_cnd h (fun h => ?_) (fun h => ?_)
  · refine wp_seq ?_
    refine L_region ?_
    refine L_as ?_
    refine L_nil ?_
    refine E_n ?_
    refine C_ret ?_
    show bodyPost Tryz.prog Tryz.f82 (Rt Q) .ret _ _
    exact post_tmps (ts := [2]) (.inr rfl) rfl h
  · refine C_skip ?_
    refine E_n ?_
    refine wp_seq ?_
    refine L_region ?_
    refine L_mv ?_
    refine L_u (P_nc h) ?_
    intro v w h
    refine L_u (P_fa fo130_0 h) ?_
    intro v w h
    refine L_u (P_ld sc127 h) ?_
    intro v w h
    refine L_u (P_lnl is127 h) ?_
    intro v w h
    refine L_as ?_
    refine L_nil ?_
    refine E_n ?_
    refine C_ret ?_
    show bodyPost Tryz.prog Tryz.f82 (Rt Q) .ret _ _
    exact post_tmps (ts := [2]) (.inr rfl) rfl h

def f86_j1 (t5_1 : Value) : M := sla 64 1 t5_1 none none fun t40 => smr Tryz.prog (convert 42 9 t40) fun t41 => rt t41
def f86 (t0 t1 : Value) : M := smr Tryz.prog (do eqGuard .eql 63 (.tmp 7) (.const (.pointer none)) t0 (.pointer none); binOp .eql 63 t0 (.pointer none)) fun t8 => gd t8 false (idv t1) fun t10 => gd t8 false (lt .i64 t10 (.int .i64 0)) fun t11 => pk t8 (.bool true) t11 fun t12 => gd t12 false (idv t1) fun t14 => gd t12 false (idv t0) fun t15 => gd t12 false (nc t15) fun t16 => gd t12 false (fa 0 t16) fun t17 => gd t12 false (ld t17) fun t18 => gd t12 false (lnl t18) fun t19 => gd t12 false (ge .i64 t14 t19) fun t20 => pk t12 (.bool true) t20 fun t21 => cnd t21 ( rt (.string ⟨#[]⟩) ) ( nc t0 fun t24 => fa 1 t24 fun t25 => ld t25 fun t26 => smr Tryz.prog (Instr.lookup 128 t26 t1 true) fun t28 => ex 0 t28 fun t29 => ex 1 t28 fun t30 => al 145 (Array.replicate 64 (.int .u8 0)) fun t5 => stn 64 t5 t29 <| nt t30 fun t32 => jn (fun (j1 : Value → M) => cnd t32 ( nc t0 fun t34 => fa 0 t34 fun t35 => ld t35 fun t36 => ia 64 t36 t1 fun t38 => ldn 64 t38 fun t39 => stn 64 t5 t39 <| j1 t5 ) ( j1 t5 ) ) (f86_j1) )
theorem s86 (t0 t1 : Value) (w : World) (Q : Value → World → Prop) (h : f86 t0 t1 w Q) : Calls Tryz.prog 86 #[t0, t1] w (Rt Q) := by
  refine calls_of (l := [t0, t1]) Tryz.func86 rfl Tryz.ntmps86 (Nat.le_of_ble_eq_true rfl) ?_
  unfold f86 at h
  refine wp_seq ?_
  refine L_region ?_
  refine L_as ?_
  refine L_nil ?_
  refine E_n ?_
  refine wp_seq ?_
  refine wp_seq ?_
  refine L_region ?_
  refine L_mv ?_
  refine L_u (P_smr rfl h) ?_
  intro v w h
  refine L_mv ?_
  refine L_g (t := 9) h rfl rfl (fun c h => P_mv h c) ?_
  intro v w h
  refine L_g (t := 9) h rfl rfl (fun c h => P_lt h c) ?_
  intro v w h
  refine L_u (P_pk h) ?_
  intro v w h
  refine L_mv ?_
  refine L_g (t := 13) h rfl rfl (fun c h => P_mv h c) ?_
  intro v w h
  refine L_g (t := 13) h rfl rfl (fun c h => P_mv h c) ?_
  intro v w h
  refine L_g (t := 13) h rfl rfl (fun c h => P_nc h c) ?_
  intro v w h
  refine L_g (t := 13) h rfl rfl (fun c h => P_fa fo130_0 h c) ?_
  intro v w h
  refine L_g (t := 13) h rfl rfl (fun c h => P_ld sc127 h c) ?_
  intro v w h
  refine L_g (t := 13) h rfl rfl (fun c h => P_lnl is127 h c) ?_
  intro v w h
  refine L_g (t := 13) h rfl rfl (fun c h => P_ge h c) ?_
  intro v w h
  refine L_u (P_pk h) ?_
  intro v w h
  refine L_nil ?_
  refine E_n ?_
  refine C_cnd h (fun h => ?_) (fun h => ?_)
  · refine wp_seq ?_
    refine L_region ?_
    refine L_as ?_
    refine L_nil ?_
    refine E_n ?_
    refine C_ret ?_
    show bodyPost Tryz.prog Tryz.f86 (Rt Q) .ret _ _
    exact post_tmps (ts := [4]) (.inr rfl) rfl h
  · refine C_skip ?_
    refine E_n ?_
    refine wp_seq ?_
    refine L_region ?_
    refine L_mv ?_
    refine L_u (P_nc h) ?_
    intro v w h
    refine L_u (P_fa fo130_1 h) ?_
    intro v w h
    refine L_u (P_ld sc128 h) ?_
    intro v w h
    refine L_mv ?_
    refine L_u (P_smr rfl h) ?_
    intro v w h
    refine L_mv ?_
    refine L_u (P_ex h) ?_
    intro v w h
    refine L_u (P_ex h) ?_
    intro v w h
    refine L_u (P_al ze145 rfl h) ?_
    intro v w h
    refine L_u (P_stn ag145 h) ?_
    intro w h
    refine L_as ?_
    refine L_nil ?_
    refine E_n ?_
    refine wp_seq ?_
    refine wp_seq ?_
    refine L_region ?_
    refine L_mv ?_
    refine L_u (P_nt h) ?_
    intro v w h
    refine L_nil ?_
    refine E_n ?_
    refine C_join (fun (k : Value → M) (ρ : Nat → Value) => k (ρ 5)) h (fun j1 J1 h => ?_) (fun ρ w h => ?_)
    · refine C_cnd h (fun h => ?_) (fun h => ?_)
      · refine L_region ?_
        refine L_mv ?_
        refine L_u (P_nc h) ?_
        intro v w h
        refine L_u (P_fa fo130_0 h) ?_
        intro v w h
        refine L_u (P_ld sc127 h) ?_
        intro v w h
        refine L_mv ?_
        refine L_u (P_ia se127 h) ?_
        intro v w h
        refine L_u (P_ldn ag145 h) ?_
        intro v w h
        refine L_u (P_stn ag145 h) ?_
        intro w h
        refine L_nil ?_
        exact J1 _ _ h
      · refine C_skip ?_
        exact J1 _ _ h
    · unfold f86_j1 at h
      refine E_n ?_
      refine wp_seq ?_
      refine L_region ?_
      refine L_u (P_sla ae145 h) ?_
      intro v w h
      refine L_u (P_smr rfl h) ?_
      intro v w h
      refine L_as ?_
      refine L_nil ?_
      refine E_n ?_
      refine C_ret ?_
      show bodyPost Tryz.prog Tryz.f86 (Rt Q) .ret _ _
      exact post_tmps (ts := [4]) (.inr rfl) rfl h

def f161_b2 (j1 : M) (self2 : Value → Value → Value → Value → M) (t0_1 t1_1 t7_1 t8 : Value) : M := lt .i64 t8 t7_1 fun t9 => cnd t9 ( ia 1 t0_1 t8 fun t14 => ld t14 fun t15 => cf Tryz.prog t1_1 #[t15] fun t16 => cnd t16 ( rt t8 ) ( ad .i64 t8 (.int .i64 1) fun t18 => self2 t0_1 t1_1 t7_1 t18 ) ) ( j1 )
def f161_j1 : M := rt (.int .i64 (-1))
def f161 (t0 t1 : Value) : M := lnl t0 fun t7 => jn (fun (j1 : M) => lo (fun _ _ _ _ => bot) (f161_b2 j1) (fun l => l t0 t1 t7 (.int .i64 0)) ) (f161_j1)
theorem s161 (t0 t1 : Value) (w : World) (Q : Value → World → Prop) (h : f161 t0 t1 w Q) : Calls Tryz.prog 161 #[t0, t1] w (Rt Q) := by
  refine calls_of (l := [t0, t1]) Tryz.func161 rfl Tryz.ntmps161 (Nat.le_of_ble_eq_true rfl) ?_
  unfold f161 at h
  refine wp_seq ?_
  refine L_region ?_
  refine L_as ?_
  refine L_nil ?_
  refine E_n ?_
  refine wp_seq ?_
  refine wp_seq ?_
  refine L_region ?_
  refine L_mv ?_
  refine L_u (P_lnl is100 h) ?_
  intro v w h
  refine L_mv ?_
  refine L_nil ?_
  refine E_n ?_
  refine C_join (fun (k : M) (ρ : Nat → Value) => k) h (fun j1 J1 h => ?_) (fun ρ w h => ?_)
  · refine C_blk ?_
    refine C_lo (fun (l : Value → Value → Value → Value → M) (ρ : Nat → Value) => l (ρ 0) (ρ 1) (ρ 7) (ρ 8)) h (fun ρ w h => h) (fun nx self2 L2 ρ w h => ?_)
    unfold f161_b2 at h
    refine wp_seq ?_
    refine L_region ?_
    refine L_u (P_lt h) ?_
    intro v w h
    refine L_nil ?_
    refine E_n ?_
    refine wp_seq ?_
    refine C_cnd h (fun h => ?_) (fun h => ?_)
    · refine C_skip ?_
      refine E_n ?_
      refine wp_seq ?_
      refine C_blk ?_
      refine wp_seq ?_
      refine L_region ?_
      refine L_mv ?_
      refine L_as ?_
      refine L_nil ?_
      refine E_n ?_
      refine wp_seq ?_
      refine L_region ?_
      refine L_mv ?_
      refine L_mv ?_
      refine L_mv ?_
      refine L_u (P_ia se100 h) ?_
      intro v w h
      refine L_u (P_ld sc9 h) ?_
      intro v w h
      refine L_u (N_cf h) ?_
      intro v w h
      refine L_nil ?_
      refine E_n ?_
      refine C_cnd h (fun h => ?_) (fun h => ?_)
      · refine wp_seq ?_
        refine L_region ?_
        refine L_mv ?_
        refine L_as ?_
        refine L_nil ?_
        refine E_n ?_
        refine C_ret ?_
        show bodyPost Tryz.prog Tryz.f161 (Rt Q) .ret _ _
        exact post_tmps (ts := [4]) (.inr rfl) rfl h
      · refine C_skip ?_
        refine B_n ?_
        refine E_n ?_
        refine L_region ?_
        refine L_u (P_ad h) ?_
        intro v w h
        refine L_mv ?_
        refine L_nil ?_
        refine E_n ?_
        exact L2 _ _ h
    · refine C_exit ?_
      refine E_x ?_
      refine E_x ?_
      refine B_x ?_
      exact J1 _ _ h
  · unfold f161_j1 at h
    refine E_n ?_
    refine wp_seq ?_
    refine L_region ?_
    refine L_as ?_
    refine L_nil ?_
    refine E_n ?_
    refine C_ret ?_
    show bodyPost Tryz.prog Tryz.f161 (Rt Q) .ret _ _
    exact post_tmps (ts := [4]) (.inr rfl) rfl h

def f134 (t0 t1 : Value) : M := cl (f161 t0 t1) fun t7 => ge .i64 t7 (.int .i64 0) fun t8 => rt t8
theorem s134 (t0 t1 : Value) (w : World) (Q : Value → World → Prop) (h : f134 t0 t1 w Q) : Calls Tryz.prog 134 #[t0, t1] w (Rt Q) := by
  refine calls_of (l := [t0, t1]) Tryz.func134 rfl Tryz.ntmps134 (Nat.le_of_ble_eq_true rfl) ?_
  unfold f134 at h
  refine wp_seq ?_
  refine L_region ?_
  refine L_as ?_
  refine L_nil ?_
  refine E_n ?_
  refine wp_seq ?_
  refine L_region ?_
  refine L_mv ?_
  refine L_mv ?_
  refine L_u (N_cl Tryz.func161 rfl nn161 (fun w Q h => s161 _ _ w Q h) h) ?_
  intro v w h
  refine L_u (P_ge h) ?_
  intro v w h
  refine L_as ?_
  refine L_nil ?_
  refine E_n ?_
  refine C_ret ?_
  show bodyPost Tryz.prog Tryz.f134 (Rt Q) .ret _ _
  exact post_tmps (ts := [4]) (.inr rfl) rfl h

def f135 (t0 : Value) : M := lns t0 fun t4 => nei .i64 t4 (.int .i64 64) fun t5 => rt t5
theorem s135 (t0 : Value) (w : World) (Q : Value → World → Prop) (h : f135 t0 w Q) : Calls Tryz.prog 135 #[t0] w (Rt Q) := by
  refine calls_of (l := [t0]) Tryz.func135 rfl Tryz.ntmps135 (Nat.le_of_ble_eq_true rfl) ?_
  unfold f135 at h
  refine wp_seq ?_
  refine L_region ?_
  refine L_as ?_
  refine L_nil ?_
  refine E_n ?_
  refine wp_seq ?_
  refine L_region ?_
  refine L_mv ?_
  refine L_u (P_lns st9 h) ?_
  intro v w h
  refine L_u (P_nei h) ?_
  intro v w h
  refine L_as ?_
  refine L_nil ?_
  refine E_n ?_
  refine C_ret ?_
  show bodyPost Tryz.prog Tryz.f135 (Rt Q) .ret _ _
  exact post_tmps (ts := [2]) (.inr rfl) rfl h

def f108 (t0 : Value) : M := lnl t0 fun t5 => nei .i64 t5 (.int .i64 4) fun t6 => gd t6 false (idv t0) fun t8 => gd t6 false (cl (f134 t8 (.func (.func 135) #[] #[]))) fun t9 => pk t6 (.bool true) t9 fun t10 => cnd t10 ( rt (.tuple #[(.string ⟨#[]⟩), (.int .i64 1)]) ) ( cc Tryz.prog 136 #[t0, (.string ⟨#[]⟩)] fun t12 => rt (.tuple #[t12, (.int .i64 0)]) )
theorem s108 (t0 : Value) (w : World) (Q : Value → World → Prop) (h : f108 t0 w Q) : Calls Tryz.prog 108 #[t0] w (Rt Q) := by
  refine calls_of (l := [t0]) Tryz.func108 rfl Tryz.ntmps108 (Nat.le_of_ble_eq_true rfl) ?_
  unfold f108 at h
  refine wp_seq ?_
  refine L_region ?_
  refine L_as ?_
  refine L_as ?_
  refine L_nil ?_
  refine E_n ?_
  refine wp_seq ?_
  refine wp_seq ?_
  refine L_region ?_
  refine L_mv ?_
  refine L_u (P_lnl is100 h) ?_
  intro v w h
  refine L_u (P_nei h) ?_
  intro v w h
  refine L_mv ?_
  refine L_g (t := 7) h rfl rfl (fun c h => P_mv h c) ?_
  intro v w h
  refine L_g (t := 7) h rfl rfl (fun c h => N_cl Tryz.func134 rfl nn134 (fun w Q h => s134 _ _ w Q h) h c) ?_
  intro v w h
  refine L_u (P_pk h) ?_
  intro v w h
  refine L_nil ?_
  refine E_n ?_
  refine C_cnd h (fun h => ?_) (fun h => ?_)
  · refine wp_seq ?_
    refine L_region ?_
    refine L_as ?_
    refine L_as ?_
    refine L_nil ?_
    refine E_n ?_
    refine C_ret ?_
    show bodyPost Tryz.prog Tryz.f108 (Rt Q) .ret _ _
    exact post_tmps (ts := [2, 3]) (.inr rfl) rfl h
  · refine C_skip ?_
    refine E_n ?_
    refine wp_seq ?_
    refine L_region ?_
    refine L_mv ?_
    refine L_u (N_cc Tryz.func136 rfl nn136 h) ?_
    intro v w h
    refine L_as ?_
    refine L_as ?_
    refine L_nil ?_
    refine E_n ?_
    refine C_ret ?_
    show bodyPost Tryz.prog Tryz.f108 (Rt Q) .ret _ _
    exact post_tmps (ts := [2, 3]) (.inr rfl) rfl h

def f83_b2 (j1 : Value → M) (self2 : Value → Value → Value → Value → M) (t0_1 t1_1 t5 t9 : Value) : M := lt .i64 t9 (.int .i64 4) fun t10 => cnd t10 ( dr <| idv t5 fun t12 => idv t0_1 fun t13 => nc t13 fun t14 => fa 0 t14 fun t15 => ld t15 fun t16 => idv t1_1 fun t17 => idv t9 fun t18 => cf Tryz.prog t17 #[t18] fun t19 => kp (Kld t15 t16) <| cl (f86 t16 t19) fun t20 => sm Tryz.prog (Instr.buildSlice 100 1 #[(0, t20)]) fun t21 => sm Tryz.prog (Builtin.append_ #[100, 100] 100 #[t12, t21]) fun t22 => idv t22 fun t5_1 => ad .i64 t9 (.int .i64 1) fun t23 => self2 t0_1 t1_1 t5_1 t23 ) ( j1 t5 )
def f83_j1 (t5_2 : Value) : M := cl (f108 t5_2) fun t26 => ex 0 t26 fun t27 => ex 1 t26 fun t28 => rt t27
def f83 (t0 t1 : Value) : M := jn (fun (j1 : Value → M) => lo (fun _ _ _ _ => bot) (f83_b2 j1) (fun l => l t0 t1 (.slice none 0 0) (.int .i64 0)) ) (f83_j1)
theorem s83 (t0 t1 : Value) (w : World) (Q : Value → World → Prop) (h : f83 t0 t1 w Q) : Calls Tryz.prog 83 #[t0, t1] w (Rt Q) := by
  refine calls_of (l := [t0, t1]) Tryz.func83 rfl Tryz.ntmps83 (Nat.le_of_ble_eq_true rfl) ?_
  unfold f83 at h
  refine wp_seq ?_
  refine L_region ?_
  refine L_as ?_
  refine L_nil ?_
  refine E_n ?_
  refine wp_seq ?_
  refine L_region ?_
  refine L_as ?_
  refine L_nil ?_
  refine E_n ?_
  refine wp_seq ?_
  refine wp_seq ?_
  refine L_region ?_
  refine L_mv ?_
  refine L_nil ?_
  refine E_n ?_
  refine C_join (fun (k : Value → M) (ρ : Nat → Value) => k (ρ 5)) h (fun j1 J1 h => ?_) (fun ρ w h => ?_)
  · refine C_blk ?_
    refine C_lo (fun (l : Value → Value → Value → Value → M) (ρ : Nat → Value) => l (ρ 0) (ρ 1) (ρ 5) (ρ 9)) h (fun ρ w h => h) (fun nx self2 L2 ρ w h => ?_)
    unfold f83_b2 at h
    refine wp_seq ?_
    refine L_region ?_
    refine L_u (P_lt h) ?_
    intro v w h
    refine L_nil ?_
    refine E_n ?_
    refine wp_seq ?_
    refine C_cnd h (fun h => ?_) (fun h => ?_)
    · refine C_skip ?_
      refine E_n ?_
      refine wp_seq ?_
      refine C_blk ?_
      refine wp_seq ?_
      refine L_region ?_
      refine L_mv ?_
      refine L_as ?_
      refine L_nil ?_
      refine E_n ?_
      refine D_region (by decide +kernel) 12 rfl ?_
      replace h := dr_e h
      refine G_p 0 rfl (by decide +kernel) (Y_mv h) ?_
      intro v h
      refine G_p 1 rfl (by decide +kernel) (Y_mv h) ?_
      intro v h
      refine G_p 2 rfl (by decide +kernel) (Y_nc h) ?_
      intro v h
      refine G_p 3 rfl (by decide +kernel) (Y_fa fo133_0 h) ?_
      intro v h
      refine G_r _ 4 rfl (by decide +kernel) (R_ld sc63 h) ?_
      intro v h
      refine G_p 5 rfl (by decide +kernel) (Y_mv h) ?_
      intro v h
      refine G_p 6 rfl (by decide +kernel) (Y_mv h) ?_
      intro v h
      refine G_e 7 rfl (by decide +kernel) (N_cf h ?_)
      intro v w h
      refine ⟨keepF_cons (kp_1 h) keepF_nil, ?_⟩
      replace h := (kp_2 h)
      refine G_e 8 rfl (by decide +kernel) (N_cl Tryz.func86 rfl nn86 (fun w Q h => s86 _ _ w Q h) h ?_)
      intro v w h
      refine ⟨keepF_dep [4] (by decide +kernel) rfl keepF_nil, ?_⟩
      refine G_e 9 rfl (by decide +kernel) (N_bsl h ?_)
      intro v w h
      refine ⟨keepF_dep [8, 4] (by decide +kernel) rfl keepF_nil, ?_⟩
      refine G_e 10 rfl (by decide +kernel) (N_bi rfl h ?_)
      intro v w h
      refine ⟨keepF_dep [8, 4] (by decide +kernel) rfl keepF_nil, ?_⟩
      refine G_p 11 rfl (by decide +kernel) (Y_as h) ?_
      intro v h
      refine G_done (by decide +kernel) ?_
      refine B_n ?_
      refine E_n ?_
      refine L_region ?_
      refine L_u (P_ad h) ?_
      intro v w h
      refine L_mv ?_
      refine L_nil ?_
      refine E_n ?_
      exact L2 _ _ h
    · refine C_exit ?_
      refine E_x ?_
      refine E_x ?_
      refine B_x ?_
      exact J1 _ _ h
  · unfold f83_j1 at h
    refine E_n ?_
    refine wp_seq ?_
    refine L_region ?_
    refine L_mv ?_
    refine L_u (N_cl Tryz.func108 rfl nn108 (fun w Q h => s108 _ w Q h) h) ?_
    intro v w h
    refine L_mv ?_
    refine L_u (P_ex h) ?_
    intro v w h
    refine L_u (P_ex h) ?_
    intro v w h
    refine L_as ?_
    refine L_as ?_
    refine L_nil ?_
    refine E_n ?_
    refine wp_seq ?_
    refine L_region ?_
    refine L_mv ?_
    refine L_as ?_
    refine L_nil ?_
    refine E_n ?_
    refine C_ret ?_
    show bodyPost Tryz.prog Tryz.f83 (Rt Q) .ret _ _
    exact post_tmps (ts := [4]) (.inr rfl) rfl h

def f84 (t0 t1 : Value) : M := ld t1 fun t4 => cl (f81 t4 t0) fun t6 => rt t6
theorem s84 (t0 t1 : Value) (w : World) (Q : Value → World → Prop) (h : f84 t0 t1 w Q) : Calls Tryz.prog 84 #[t0, t1] w (Rt Q) := by
  refine calls_of (l := [t0, t1]) Tryz.func84 rfl Tryz.ntmps84 (Nat.le_of_ble_eq_true rfl) ?_
  unfold f84 at h
  refine wp_seq ?_
  refine L_region ?_
  refine L_as ?_
  refine L_nil ?_
  refine E_n ?_
  refine wp_seq ?_
  refine L_region ?_
  refine L_u (P_ld sc3 h) ?_
  intro v w h
  refine L_mv ?_
  refine L_u (N_cl Tryz.func81 rfl nn81 (fun w Q h => s81 _ _ w Q h) h) ?_
  intro v w h
  refine L_as ?_
  refine L_nil ?_
  refine E_n ?_
  refine C_ret ?_
  show bodyPost Tryz.prog Tryz.f84 (Rt Q) .ret _ _
  exact post_tmps (ts := [3]) (.inr rfl) rfl h

def f85 (t0 : Value) : M := nes t0 (.string ⟨#[]⟩) fun t4 => gd t4 true (idv t0) fun t6 => gd t4 true (ixs t6 (.int .i64 0)) fun t7 => gd t4 true (nei .u8 t7 (.int .u8 0)) fun t8 => pk t4 t8 (.bool false) fun t9 => rt t9
theorem s85 (t0 : Value) (w : World) (Q : Value → World → Prop) (h : f85 t0 w Q) : Calls Tryz.prog 85 #[t0] w (Rt Q) := by
  refine calls_of (l := [t0]) Tryz.func85 rfl Tryz.ntmps85 (Nat.le_of_ble_eq_true rfl) ?_
  unfold f85 at h
  refine wp_seq ?_
  refine L_region ?_
  refine L_as ?_
  refine L_nil ?_
  refine E_n ?_
  refine wp_seq ?_
  refine L_region ?_
  refine L_mv ?_
  refine L_u (P_nes h) ?_
  intro v w h
  refine L_mv ?_
  refine L_g (t := 5) h rfl rfl (fun c h => P_mv h c) ?_
  intro v w h
  refine L_g (t := 5) h rfl rfl (fun c h => P_ixs st9 h c) ?_
  intro v w h
  refine L_g (t := 5) h rfl rfl (fun c h => P_nei h c) ?_
  intro v w h
  refine L_u (P_pk h) ?_
  intro v w h
  refine L_as ?_
  refine L_nil ?_
  refine E_n ?_
  refine C_ret ?_
  show bodyPost Tryz.prog Tryz.f85 (Rt Q) .ret _ _
  exact post_tmps (ts := [2]) (.inr rfl) rfl h

def f90_b2 (j1 : M) (self2 : Value → Value → Value → M) (t6 t7_1 t8 : Value) : M := lt .i64 t8 t7_1 fun t9 => cnd t9 ( ia 1 t6 t8 fun t10 => ld t10 fun t11 => cf Tryz.prog t11 #[] fun t13 => nei .i64 t13 (.int .i64 0) fun t15 => cnd t15 ( rt t13 ) ( ad .i64 t8 (.int .i64 1) fun t17 => self2 t6 t7_1 t17 ) ) ( j1 )
def f90_j1 : M := rt (.int .i64 0)
def f90 (t0 : Value) : M := lnl t0 fun t7 => jn (fun (j1 : M) => lo (fun _ _ _ => bot) (f90_b2 j1) (fun l => l t0 t7 (.int .i64 0)) ) (f90_j1)
theorem s90 (t0 : Value) (w : World) (Q : Value → World → Prop) (h : f90 t0 w Q) : Calls Tryz.prog 90 #[t0] w (Rt Q) := by
  refine calls_of (l := [t0]) Tryz.func90 rfl Tryz.ntmps90 (Nat.le_of_ble_eq_true rfl) ?_
  unfold f90 at h
  refine wp_seq ?_
  refine L_region ?_
  refine L_as ?_
  refine L_nil ?_
  refine E_n ?_
  refine wp_seq ?_
  refine wp_seq ?_
  refine L_region ?_
  refine L_mv ?_
  refine L_u (P_lnl is138 h) ?_
  intro v w h
  refine L_mv ?_
  refine L_nil ?_
  refine E_n ?_
  refine C_join (fun (k : M) (ρ : Nat → Value) => k) h (fun j1 J1 h => ?_) (fun ρ w h => ?_)
  · refine C_blk ?_
    refine C_lo (fun (l : Value → Value → Value → M) (ρ : Nat → Value) => l (ρ 6) (ρ 7) (ρ 8)) h (fun ρ w h => h) (fun nx self2 L2 ρ w h => ?_)
    unfold f90_b2 at h
    refine wp_seq ?_
    refine L_region ?_
    refine L_u (P_lt h) ?_
    intro v w h
    refine L_nil ?_
    refine E_n ?_
    refine wp_seq ?_
    refine C_cnd h (fun h => ?_) (fun h => ?_)
    · refine C_skip ?_
      refine E_n ?_
      refine wp_seq ?_
      refine C_blk ?_
      refine wp_seq ?_
      refine L_region ?_
      refine L_u (P_ia se138 h) ?_
      intro v w h
      refine L_u (P_ld sc165 h) ?_
      intro v w h
      refine L_as ?_
      refine L_nil ?_
      refine E_n ?_
      refine wp_seq ?_
      refine L_region ?_
      refine L_mv ?_
      refine L_u (N_cf h) ?_
      intro v w h
      refine L_as ?_
      refine L_nil ?_
      refine E_n ?_
      refine wp_seq ?_
      refine L_region ?_
      refine L_mv ?_
      refine L_u (P_nei h) ?_
      intro v w h
      refine L_nil ?_
      refine E_n ?_
      refine C_cnd h (fun h => ?_) (fun h => ?_)
      · refine wp_seq ?_
        refine L_region ?_
        refine L_mv ?_
        refine L_as ?_
        refine L_nil ?_
        refine E_n ?_
        refine C_ret ?_
        show bodyPost Tryz.prog Tryz.f90 (Rt Q) .ret _ _
        exact post_tmps (ts := [2]) (.inr rfl) rfl h
      · refine C_skip ?_
        refine B_n ?_
        refine E_n ?_
        refine L_region ?_
        refine L_u (P_ad h) ?_
        intro v w h
        refine L_mv ?_
        refine L_nil ?_
        refine E_n ?_
        exact L2 _ _ h
    · refine C_exit ?_
      refine E_x ?_
      refine E_x ?_
      refine B_x ?_
      exact J1 _ _ h
  · unfold f90_j1 at h
    refine E_n ?_
    refine wp_seq ?_
    refine L_region ?_
    refine L_as ?_
    refine L_nil ?_
    refine E_n ?_
    refine C_ret ?_
    show bodyPost Tryz.prog Tryz.f90 (Rt Q) .ret _ _
    exact post_tmps (ts := [2]) (.inr rfl) rfl h

def f137 (t0 : Value) : M := smr Tryz.prog (Instr.build 206 #[(0, t0)]) fun t4 => bx 206 t4 fun t5 => rt t5
theorem s137 (t0 : Value) (w : World) (Q : Value → World → Prop) (h : f137 t0 w Q) : Calls Tryz.prog 137 #[t0] w (Rt Q) := by
  refine calls_of (l := [t0]) Tryz.func137 rfl Tryz.ntmps137 (Nat.le_of_ble_eq_true rfl) ?_
  unfold f137 at h
  refine wp_seq ?_
  refine L_region ?_
  refine L_as ?_
  refine L_nil ?_
  refine E_n ?_
  refine wp_seq ?_
  refine L_region ?_
  refine L_mv ?_
  refine L_u (N_bld h) ?_
  intro v w h
  refine L_u (P_bx h) ?_
  intro v w h
  refine L_as ?_
  refine L_nil ?_
  refine E_n ?_
  refine C_ret ?_
  show bodyPost Tryz.prog Tryz.f137 (Rt Q) .ret _ _
  exact post_tmps (ts := [2]) (.inr rfl) rfl h

def f162 (t0 t1 : Value) : M := smr Tryz.prog (do eqGuard .eql 183 (.tmp 7) (.const (.pointer none)) t0 (.pointer none); binOp .eql 183 t0 (.pointer none)) fun t8 => gd t8 false (idv t0) fun t10 => gd t8 false (nc t10) fun t11 => gd t8 false (fa 1 t11) fun t12 => gd t8 false (ld t12) fun t13 => gd t8 false (nei .i64 t13 (.int .i64 0)) fun t14 => pk t8 (.bool true) t14 fun t15 => cnd t15 ( rt (.tuple #[(.string ⟨#[]⟩), (.bool false)]) ) ( nc t0 fun t18 => fa 0 t18 fun t19 => ld t19 fun t20 => lns t20 fun t21 => gt .i64 t1 t21 fun t22 => cnd t22 ( nc t0 fun t24 => fa 1 t24 fun t25 => st t25 (.int .i64 2) <| rt (.tuple #[(.string ⟨#[]⟩), (.bool false)]) ) ( nc t0 fun t27 => fa 0 t27 fun t28 => ld t28 fun t29 => sls t29 none (some t1) fun t31 => nc t0 fun t34 => fa 0 t34 fun t35 => ld t35 fun t36 => sls t36 (some t1) none fun t38 => nc t0 fun t39 => fa 0 t39 fun t40 => st t40 t38 <| rt (.tuple #[t31, (.bool true)]) ) )
theorem s162 (t0 t1 : Value) (w : World) (Q : Value → World → Prop) (h : f162 t0 t1 w Q) : Calls Tryz.prog 162 #[t0, t1] w (Rt Q) := by
  refine calls_of (l := [t0, t1]) Tryz.func162 rfl Tryz.ntmps162 (Nat.le_of_ble_eq_true rfl) ?_
  unfold f162 at h
  refine wp_seq ?_
  refine L_region ?_
  refine L_as ?_
  refine L_as ?_
  refine L_nil ?_
  refine E_n ?_
  refine wp_seq ?_
  refine wp_seq ?_
  refine L_region ?_
  refine L_mv ?_
  refine L_u (P_smr rfl h) ?_
  intro v w h
  refine L_mv ?_
  refine L_g (t := 9) h rfl rfl (fun c h => P_mv h c) ?_
  intro v w h
  refine L_g (t := 9) h rfl rfl (fun c h => P_nc h c) ?_
  intro v w h
  refine L_g (t := 9) h rfl rfl (fun c h => P_fa fo206_1 h c) ?_
  intro v w h
  refine L_g (t := 9) h rfl rfl (fun c h => P_ld sc26 h c) ?_
  intro v w h
  refine L_g (t := 9) h rfl rfl (fun c h => P_nei h c) ?_
  intro v w h
  refine L_u (P_pk h) ?_
  intro v w h
  refine L_nil ?_
  refine E_n ?_
  refine C_cnd h (fun h => ?_) (fun h => ?_)
  · refine wp_seq ?_
    refine L_region ?_
    refine L_as ?_
    refine L_as ?_
    refine L_nil ?_
    refine E_n ?_
    refine C_ret ?_
    show bodyPost Tryz.prog Tryz.f162 (Rt Q) .ret _ _
    exact post_tmps (ts := [4, 5]) (.inr rfl) rfl h
  · refine C_skip ?_
    refine E_n ?_
    refine wp_seq ?_
    refine wp_seq ?_
    refine L_region ?_
    refine L_mv ?_
    refine L_mv ?_
    refine L_u (P_nc h) ?_
    intro v w h
    refine L_u (P_fa fo206_0 h) ?_
    intro v w h
    refine L_u (P_ld sc9 h) ?_
    intro v w h
    refine L_u (P_lns st9 h) ?_
    intro v w h
    refine L_u (P_gt h) ?_
    intro v w h
    refine L_nil ?_
    refine E_n ?_
    refine C_cnd h (fun h => ?_) (fun h => ?_)
    · refine wp_seq ?_
      refine L_region ?_
      refine L_mv ?_
      refine L_u (P_nc h) ?_
      intro v w h
      refine L_u (P_fa fo206_1 h) ?_
      intro v w h
      refine L_u (P_st on26 h) ?_
      intro w h
      refine L_nil ?_
      refine E_n ?_
      refine wp_seq ?_
      refine L_region ?_
      refine L_as ?_
      refine L_as ?_
      refine L_nil ?_
      refine E_n ?_
      refine C_ret ?_
      show bodyPost Tryz.prog Tryz.f162 (Rt Q) .ret _ _
      exact post_tmps (ts := [4, 5]) (.inr rfl) rfl h
    · refine C_skip ?_
      refine E_n ?_
      refine wp_seq ?_
      refine L_region ?_
      refine L_mv ?_
      refine L_u (P_nc h) ?_
      intro v w h
      refine L_u (P_fa fo206_0 h) ?_
      intro v w h
      refine L_u (P_ld sc9 h) ?_
      intro v w h
      refine L_mv ?_
      refine L_u (P_sls st9 h) ?_
      intro v w h
      refine L_as ?_
      refine L_nil ?_
      refine E_n ?_
      refine wp_seq ?_
      refine L_region ?_
      refine L_mv ?_
      refine L_mv ?_
      refine L_u (P_nc h) ?_
      intro v w h
      refine L_u (P_fa fo206_0 h) ?_
      intro v w h
      refine L_u (P_ld sc9 h) ?_
      intro v w h
      refine L_mv ?_
      refine L_u (P_sls st9 h) ?_
      intro v w h
      refine L_u (P_nc h) ?_
      intro v w h
      refine L_u (P_fa fo206_0 h) ?_
      intro v w h
      refine L_u (P_st on9 h) ?_
      intro w h
      refine L_nil ?_
      refine E_n ?_
      refine wp_seq ?_
      refine L_region ?_
      refine L_mv ?_
      refine L_as ?_
      refine L_as ?_
      refine L_nil ?_
      refine E_n ?_
      refine C_ret ?_
      show bodyPost Tryz.prog Tryz.f162 (Rt Q) .ret _ _
      exact post_tmps (ts := [4, 5]) (.inr rfl) rfl h

def f163 (t0 : Value) : M := mxm t0 (.int .i64 1) fun t4 => mnm t4 (.int .i64 8) fun t5 => rt t5
theorem s163 (t0 : Value) (w : World) (Q : Value → World → Prop) (h : f163 t0 w Q) : Calls Tryz.prog 163 #[t0] w (Rt Q) := by
  refine calls_of (l := [t0]) Tryz.func163 rfl Tryz.ntmps163 (Nat.le_of_ble_eq_true rfl) ?_
  unfold f163 at h
  refine wp_seq ?_
  refine L_region ?_
  refine L_as ?_
  refine L_nil ?_
  refine E_n ?_
  refine wp_seq ?_
  refine L_region ?_
  refine L_mv ?_
  refine L_u (P_mxm (t := 0) h) ?_
  intro v w h
  refine L_u (P_mnm (t := 0) h) ?_
  intro v w h
  refine L_as ?_
  refine L_nil ?_
  refine E_n ?_
  refine C_ret ?_
  show bodyPost Tryz.prog Tryz.f163 (Rt Q) .ret _ _
  exact post_tmps (ts := [2]) (.inr rfl) rfl h

def f138_b2 (j1 : Value → M) (self2 : Value → Value → Value → Value → M) (t7 t18_1 t19_1 t20 : Value) : M := lt .i64 t20 t19_1 fun t21 => cnd t21 ( ia 1 t18_1 t20 fun t22 => ld t22 fun t23 => shl .u64 .u64 t7 (.int .u64 8) fun t25 => cv .u64 t23 fun t27 => bws .or .u64 t25 t27 fun t28 => ad .i64 t20 (.int .i64 1) fun t29 => self2 t28 t18_1 t19_1 t29 ) ( j1 t7 )
def f138_j1 (t7_1 : Value) : M := rt t7_1
def f138 (t0 t1 : Value) : M := cl (f163 t1) fun t13 => cl (f162 t0 t13) fun t14 => ex 0 t14 fun t15 => ex 1 t14 fun t16 => sm Tryz.prog (convert 9 42 t15) fun t18 => lnl t18 fun t19 => jn (fun (j1 : Value → M) => lo (fun _ _ _ _ => bot) (f138_b2 j1) (fun l => l (.int .u64 0) t18 t19 (.int .i64 0)) ) (f138_j1)
theorem s138 (t0 t1 : Value) (w : World) (Q : Value → World → Prop) (h : f138 t0 t1 w Q) : Calls Tryz.prog 138 #[t0, t1] w (Rt Q) := by
  refine calls_of (l := [t0, t1]) Tryz.func138 rfl Tryz.ntmps138 (Nat.le_of_ble_eq_true rfl) ?_
  unfold f138 at h
  refine wp_seq ?_
  refine L_region ?_
  refine L_as ?_
  refine L_nil ?_
  refine E_n ?_
  refine wp_seq ?_
  refine L_region ?_
  refine L_mv ?_
  refine L_mv ?_
  refine L_u (N_cl Tryz.func163 rfl nn163 (fun w Q h => s163 _ w Q h) h) ?_
  intro v w h
  refine L_u (N_cl Tryz.func162 rfl nn162 (fun w Q h => s162 _ _ w Q h) h) ?_
  intro v w h
  refine L_mv ?_
  refine L_u (P_ex h) ?_
  intro v w h
  refine L_u (P_ex h) ?_
  intro v w h
  refine L_as ?_
  refine L_as ?_
  refine L_nil ?_
  refine E_n ?_
  refine wp_seq ?_
  refine L_region ?_
  refine L_as ?_
  refine L_nil ?_
  refine E_n ?_
  refine wp_seq ?_
  refine wp_seq ?_
  refine L_region ?_
  refine L_mv ?_
  refine L_u (P_sm rfl h) ?_
  intro v w h
  refine L_u (P_lnl is42 h) ?_
  intro v w h
  refine L_mv ?_
  refine L_nil ?_
  refine E_n ?_
  refine C_join (fun (k : Value → M) (ρ : Nat → Value) => k (ρ 7)) h (fun j1 J1 h => ?_) (fun ρ w h => ?_)
  · refine C_blk ?_
    refine C_lo (fun (l : Value → Value → Value → Value → M) (ρ : Nat → Value) => l (ρ 7) (ρ 18) (ρ 19) (ρ 20)) h (fun ρ w h => h) (fun nx self2 L2 ρ w h => ?_)
    unfold f138_b2 at h
    refine wp_seq ?_
    refine L_region ?_
    refine L_u (P_lt h) ?_
    intro v w h
    refine L_nil ?_
    refine E_n ?_
    refine wp_seq ?_
    refine C_cnd h (fun h => ?_) (fun h => ?_)
    · refine C_skip ?_
      refine E_n ?_
      refine wp_seq ?_
      refine C_blk ?_
      refine wp_seq ?_
      refine L_region ?_
      refine L_u (P_ia se42 h) ?_
      intro v w h
      refine L_u (P_ld sc5 h) ?_
      intro v w h
      refine L_as ?_
      refine L_nil ?_
      refine E_n ?_
      refine L_region ?_
      refine L_mv ?_
      refine L_u (P_shl h) ?_
      intro v w h
      refine L_mv ?_
      refine L_u (P_cv ai5 in185 h) ?_
      intro v w h
      refine L_u (P_bits rfl h) ?_
      intro v w h
      refine L_as ?_
      refine L_nil ?_
      refine B_n ?_
      refine E_n ?_
      refine L_region ?_
      refine L_u (P_ad h) ?_
      intro v w h
      refine L_mv ?_
      refine L_nil ?_
      refine E_n ?_
      exact L2 _ _ h
    · refine C_exit ?_
      refine E_x ?_
      refine E_x ?_
      refine B_x ?_
      exact J1 _ _ h
  · unfold f138_j1 at h
    refine E_n ?_
    refine wp_seq ?_
    refine L_region ?_
    refine L_mv ?_
    refine L_as ?_
    refine L_nil ?_
    refine E_n ?_
    refine C_ret ?_
    show bodyPost Tryz.prog Tryz.f138 (Rt Q) .ret _ _
    exact post_tmps (ts := [4]) (.inr rfl) rfl h

def f139 (t0 t1 : Value) : M := mxm t1 (.int .i64 0) fun t10 => cl (f162 t0 t10) fun t11 => ex 0 t11 fun t12 => ex 1 t11 fun t13 => rt t12
theorem s139 (t0 t1 : Value) (w : World) (Q : Value → World → Prop) (h : f139 t0 t1 w Q) : Calls Tryz.prog 139 #[t0, t1] w (Rt Q) := by
  refine calls_of (l := [t0, t1]) Tryz.func139 rfl Tryz.ntmps139 (Nat.le_of_ble_eq_true rfl) ?_
  unfold f139 at h
  refine wp_seq ?_
  refine L_region ?_
  refine L_as ?_
  refine L_nil ?_
  refine E_n ?_
  refine wp_seq ?_
  refine L_region ?_
  refine L_mv ?_
  refine L_mv ?_
  refine L_u (P_mxm (t := 0) h) ?_
  intro v w h
  refine L_u (N_cl Tryz.func162 rfl nn162 (fun w Q h => s162 _ _ w Q h) h) ?_
  intro v w h
  refine L_mv ?_
  refine L_u (P_ex h) ?_
  intro v w h
  refine L_u (P_ex h) ?_
  intro v w h
  refine L_as ?_
  refine L_as ?_
  refine L_nil ?_
  refine E_n ?_
  refine wp_seq ?_
  refine L_region ?_
  refine L_mv ?_
  refine L_as ?_
  refine L_nil ?_
  refine E_n ?_
  refine C_ret ?_
  show bodyPost Tryz.prog Tryz.f139 (Rt Q) .ret _ _
  exact post_tmps (ts := [4]) (.inr rfl) rfl h

def f140 (t0 : Value) : M := smr Tryz.prog (do eqGuard .eql 183 (.tmp 3) (.const (.pointer none)) t0 (.pointer none); binOp .eql 183 t0 (.pointer none)) fun t4 => cnd t4 ( rt (.int .i64 0) ) ( nc t0 fun t6 => fa 0 t6 fun t7 => ld t7 fun t8 => lns t8 fun t9 => rt t9 )
theorem s140 (t0 : Value) (w : World) (Q : Value → World → Prop) (h : f140 t0 w Q) : Calls Tryz.prog 140 #[t0] w (Rt Q) := by
  refine calls_of (l := [t0]) Tryz.func140 rfl Tryz.ntmps140 (Nat.le_of_ble_eq_true rfl) ?_
  unfold f140 at h
  refine wp_seq ?_
  refine L_region ?_
  refine L_as ?_
  refine L_nil ?_
  refine E_n ?_
  refine wp_seq ?_
  refine wp_seq ?_
  refine L_region ?_
  refine L_mv ?_
  refine L_u (P_smr rfl h) ?_
  intro v w h
  refine L_nil ?_
  refine E_n ?_
  refine C_cnd h (fun h => ?_) (fun h => ?_)
  · refine wp_seq ?_
    refine L_region ?_
    refine L_as ?_
    refine L_nil ?_
    refine E_n ?_
    refine C_ret ?_
    show bodyPost Tryz.prog Tryz.f140 (Rt Q) .ret _ _
    exact post_tmps (ts := [2]) (.inr rfl) rfl h
  · refine C_skip ?_
    refine E_n ?_
    refine wp_seq ?_
    refine L_region ?_
    refine L_mv ?_
    refine L_u (P_nc h) ?_
    intro v w h
    refine L_u (P_fa fo206_0 h) ?_
    intro v w h
    refine L_u (P_ld sc9 h) ?_
    intro v w h
    refine L_u (P_lns st9 h) ?_
    intro v w h
    refine L_as ?_
    refine L_nil ?_
    refine E_n ?_
    refine C_ret ?_
    show bodyPost Tryz.prog Tryz.f140 (Rt Q) .ret _ _
    exact post_tmps (ts := [2]) (.inr rfl) rfl h

def f141 (t0 : Value) : M := smr Tryz.prog (do eqGuard .eql 183 (.tmp 3) (.const (.pointer none)) t0 (.pointer none); binOp .eql 183 t0 (.pointer none)) fun t4 => cnd t4 ( rt (.int .i64 1) ) ( nc t0 fun t6 => fa 1 t6 fun t7 => ld t7 fun t8 => rt t8 )
theorem s141 (t0 : Value) (w : World) (Q : Value → World → Prop) (h : f141 t0 w Q) : Calls Tryz.prog 141 #[t0] w (Rt Q) := by
  refine calls_of (l := [t0]) Tryz.func141 rfl Tryz.ntmps141 (Nat.le_of_ble_eq_true rfl) ?_
  unfold f141 at h
  refine wp_seq ?_
  refine L_region ?_
  refine L_as ?_
  refine L_nil ?_
  refine E_n ?_
  refine wp_seq ?_
  refine wp_seq ?_
  refine L_region ?_
  refine L_mv ?_
  refine L_u (P_smr rfl h) ?_
  intro v w h
  refine L_nil ?_
  refine E_n ?_
  refine C_cnd h (fun h => ?_) (fun h => ?_)
  · refine wp_seq ?_
    refine L_region ?_
    refine L_as ?_
    refine L_nil ?_
    refine E_n ?_
    refine C_ret ?_
    show bodyPost Tryz.prog Tryz.f141 (Rt Q) .ret _ _
    exact post_tmps (ts := [2]) (.inr rfl) rfl h
  · refine C_skip ?_
    refine E_n ?_
    refine wp_seq ?_
    refine L_region ?_
    refine L_mv ?_
    refine L_u (P_nc h) ?_
    intro v w h
    refine L_u (P_fa fo206_1 h) ?_
    intro v w h
    refine L_u (P_ld sc26 h) ?_
    intro v w h
    refine L_as ?_
    refine L_nil ?_
    refine E_n ?_
    refine C_ret ?_
    show bodyPost Tryz.prog Tryz.f141 (Rt Q) .ret _ _
    exact post_tmps (ts := [2]) (.inr rfl) rfl h

def f164 (t0 t1 : Value) : M := cl (f163 t1) fun t7 => mu .i64 (.int .i64 8) t7 fun t8 => su .i64 t8 (.int .i64 1) fun t9 => shr .u64 .i64 t0 t9 fun t10 => shr .u64 .u64 t10 (.int .u64 1) fun t11 => eqi .u64 t11 (.int .u64 0) fun t12 => rt t12
theorem s164 (t0 t1 : Value) (w : World) (Q : Value → World → Prop) (h : f164 t0 t1 w Q) : Calls Tryz.prog 164 #[t0, t1] w (Rt Q) := by
  refine calls_of (l := [t0, t1]) Tryz.func164 rfl Tryz.ntmps164 (Nat.le_of_ble_eq_true rfl) ?_
  unfold f164 at h
  refine wp_seq ?_
  refine L_region ?_
  refine L_as ?_
  refine L_nil ?_
  refine E_n ?_
  refine wp_seq ?_
  refine L_region ?_
  refine L_mv ?_
  refine L_mv ?_
  refine L_u (N_cl Tryz.func163 rfl nn163 (fun w Q h => s163 _ w Q h) h) ?_
  intro v w h
  refine L_u (P_mu h) ?_
  intro v w h
  refine L_u (P_su h) ?_
  intro v w h
  refine L_u (P_shr h) ?_
  intro v w h
  refine L_u (P_shr h) ?_
  intro v w h
  refine L_u (P_eqi h) ?_
  intro v w h
  refine L_as ?_
  refine L_nil ?_
  refine E_n ?_
  refine C_ret ?_
  show bodyPost Tryz.prog Tryz.f164 (Rt Q) .ret _ _
  exact post_tmps (ts := [4]) (.inr rfl) rfl h

def f142_b2 (j1 : M) (self2 : Value → Value → Value → Value → M) (t3 t7 t8_1 t9 : Value) : M := lt .i64 t9 t8_1 fun t10 => cnd t10 ( ia 1 t7 t9 fun t11 => ld t11 fun t12 => smr Tryz.prog (Instr.lookup 164 t3 t12 false) fun t15 => ad .i64 t15 (.int .i64 1) fun t16 => smu Tryz.prog (Instr.mapUpdate 164 t3 t12 t16) <| lt .i64 t12 (.int .i64 0) fun t18 => gd t18 false (idv t12) fun t20 => gd t18 false (cv .u64 t20) fun t21 => gd t18 false (cl (f164 t21 (.int .i64 2))) fun t22 => gd t18 false (nt t22) fun t23 => pk t18 (.bool true) t23 fun t24 => gd t24 false (idv t3) fun t26 => gd t24 false (idv t12) fun t27 => gd t24 false (smr Tryz.prog (Instr.lookup 164 t26 t27 false)) fun t28 => gd t24 false (gt .i64 t28 (.int .i64 1)) fun t29 => pk t24 (.bool true) t29 fun t30 => cnd t30 ( rt (.bool false) ) ( ad .i64 t9 (.int .i64 1) fun t31 => self2 t3 t7 t8_1 t31 ) ) ( j1 )
def f142_j1 : M := rt (.bool true)
def f142 (t0 : Value) : M := mm fun t6 => lnl t0 fun t8 => jn (fun (j1 : M) => lo (fun _ _ _ _ => bot) (f142_b2 j1) (fun l => l t6 t0 t8 (.int .i64 0)) ) (f142_j1)
theorem s142 (t0 : Value) (w : World) (Q : Value → World → Prop) (h : f142 t0 w Q) : Calls Tryz.prog 142 #[t0] w (Rt Q) := by
  refine calls_of (l := [t0]) Tryz.func142 rfl Tryz.ntmps142 (Nat.le_of_ble_eq_true rfl) ?_
  unfold f142 at h
  refine wp_seq ?_
  refine L_region ?_
  refine L_as ?_
  refine L_nil ?_
  refine E_n ?_
  refine wp_seq ?_
  refine L_region ?_
  refine L_u (P_mm h) ?_
  intro v w h
  refine L_as ?_
  refine L_nil ?_
  refine E_n ?_
  refine wp_seq ?_
  refine wp_seq ?_
  refine L_region ?_
  refine L_mv ?_
  refine L_u (P_lnl is22 h) ?_
  intro v w h
  refine L_mv ?_
  refine L_nil ?_
  refine E_n ?_
  refine C_join (fun (k : M) (ρ : Nat → Value) => k) h (fun j1 J1 h => ?_) (fun ρ w h => ?_)
  · refine C_blk ?_
    refine C_lo (fun (l : Value → Value → Value → Value → M) (ρ : Nat → Value) => l (ρ 3) (ρ 7) (ρ 8) (ρ 9)) h (fun ρ w h => h) (fun nx self2 L2 ρ w h => ?_)
    unfold f142_b2 at h
    refine wp_seq ?_
    refine L_region ?_
    refine L_u (P_lt h) ?_
    intro v w h
    refine L_nil ?_
    refine E_n ?_
    refine wp_seq ?_
    refine C_cnd h (fun h => ?_) (fun h => ?_)
    · refine C_skip ?_
      refine E_n ?_
      refine wp_seq ?_
      refine C_blk ?_
      refine wp_seq ?_
      refine L_region ?_
      refine L_u (P_ia se22 h) ?_
      intro v w h
      refine L_u (P_ld sc3 h) ?_
      intro v w h
      refine L_as ?_
      refine L_nil ?_
      refine E_n ?_
      refine wp_seq ?_
      refine L_region ?_
      refine L_mv ?_
      refine L_mv ?_
      refine L_u (P_smr rfl h) ?_
      intro v w h
      refine L_u (P_ad h) ?_
      intro v w h
      refine L_u (P_smu rfl h) ?_
      intro w h
      refine L_nil ?_
      refine E_n ?_
      refine wp_seq ?_
      refine L_region ?_
      refine L_mv ?_
      refine L_u (P_lt h) ?_
      intro v w h
      refine L_mv ?_
      refine L_g (t := 19) h rfl rfl (fun c h => P_mv h c) ?_
      intro v w h
      refine L_g (t := 19) h rfl rfl (fun c h => P_cv ai3 in185 h c) ?_
      intro v w h
      refine L_g (t := 19) h rfl rfl (fun c h => N_cl Tryz.func164 rfl nn164 (fun w Q h => s164 _ _ w Q h) h c) ?_
      intro v w h
      refine L_g (t := 19) h rfl rfl (fun c h => P_nt h c) ?_
      intro v w h
      refine L_u (P_pk h) ?_
      intro v w h
      refine L_mv ?_
      refine L_g (t := 25) h rfl rfl (fun c h => P_mv h c) ?_
      intro v w h
      refine L_g (t := 25) h rfl rfl (fun c h => P_mv h c) ?_
      intro v w h
      refine L_g (t := 25) h rfl rfl (fun c h => P_smr rfl h c) ?_
      intro v w h
      refine L_g (t := 25) h rfl rfl (fun c h => P_gt h c) ?_
      intro v w h
      refine L_u (P_pk h) ?_
      intro v w h
      refine L_nil ?_
      refine E_n ?_
      refine C_cnd h (fun h => ?_) (fun h => ?_)
      · refine wp_seq ?_
        refine L_region ?_
        refine L_as ?_
        refine L_nil ?_
        refine E_n ?_
        refine C_ret ?_
        show bodyPost Tryz.prog Tryz.f142 (Rt Q) .ret _ _
        exact post_tmps (ts := [2]) (.inr rfl) rfl h
      · refine C_skip ?_
        refine B_n ?_
        refine E_n ?_
        refine L_region ?_
        refine L_u (P_ad h) ?_
        intro v w h
        refine L_mv ?_
        refine L_nil ?_
        refine E_n ?_
        exact L2 _ _ h
    · refine C_exit ?_
      refine E_x ?_
      refine E_x ?_
      refine B_x ?_
      exact J1 _ _ h
  · unfold f142_j1 at h
    refine E_n ?_
    refine wp_seq ?_
    refine L_region ?_
    refine L_as ?_
    refine L_nil ?_
    refine E_n ?_
    refine C_ret ?_
    show bodyPost Tryz.prog Tryz.f142 (Rt Q) .ret _ _
    exact post_tmps (ts := [2]) (.inr rfl) rfl h

def f109_b2 (j1 : Value → Value → Value → Value → M) (self2 : Value → Value → Value → Value → Value → Value → M) (t0_1 t4 t5 t6 t12 t13 : Value) : M := lt .u64 t13 t12 fun t14 => cnd t14 ( cl (f138 t4 (.int .i64 2)) fun t17 => cv .i64 t17 fun t18 => sm Tryz.prog (Instr.buildSlice 22 1 #[(0, t18)]) fun t19 => sm Tryz.prog (Builtin.append_ #[22, 22] 22 #[t5, t19]) fun t20 => ad .u64 t13 (.int .u64 1) fun t21 => self2 t0_1 t4 t20 t6 t12 t21 ) ( j1 t0_1 t4 t5 t6 )
def f109_j1 (t0_2 t4_1 t5_1 t6_1 : Value) : M := cl (f140 t4_1) fun t24 => cl (f139 t4_1 t24) fun t25 => cl (f141 t4_1) fun t27 => nei .i64 t27 (.int .i64 0) fun t28 => gd t28 false (idv t6_1) fun t30 => gd t28 false (gt .u64 t30 (.int .u64 31)) fun t31 => pk t28 (.bool true) t31 fun t32 => gd t32 false (idv t5_1) fun t34 => gd t32 false (cl (f142 t34)) fun t35 => gd t32 false (nt t35) fun t36 => pk t32 (.bool true) t36 fun t37 => gd t37 false (idv t0_2) fun t39 => gd t37 false (lns t39) fun t40 => gd t37 false (nei .i64 t40 (.int .i64 64)) fun t41 => pk t37 (.bool true) t41 fun t42 => gd t42 false (idv t25) fun t44 => gd t42 false (cc Tryz.prog 143 #[t44, (.string ⟨#[0]⟩)]) fun t45 => gd t42 false (nes t45 (.string ⟨#[]⟩)) fun t46 => pk t42 (.bool true) t46 fun t47 => cnd t47 ( rt (.tuple #[(.slice none 0 0), (.int .i64 10)]) ) ( rt (.tuple #[t5_1, (.int .i64 0)]) )
def f109 (t0 : Value) : M := cl (f137 t0) fun t9 => cl (f138 t9 (.int .i64 1)) fun t11 => jn (fun (j1 : Value → Value → Value → Value → M) => lo (fun _ _ _ _ _ _ => bot) (f109_b2 j1) (fun l => l t0 t9 (.slice none 0 0) t11 t11 (.int .u64 0)) ) (f109_j1)
theorem s109 (t0 : Value) (w : World) (Q : Value → World → Prop) (h : f109 t0 w Q) : Calls Tryz.prog 109 #[t0] w (Rt Q) := by
  refine calls_of (l := [t0]) Tryz.func109 rfl Tryz.ntmps109 (Nat.le_of_ble_eq_true rfl) ?_
  unfold f109 at h
  refine wp_seq ?_
  refine L_region ?_
  refine L_as ?_
  refine L_as ?_
  refine L_nil ?_
  refine E_n ?_
  refine wp_seq ?_
  refine L_region ?_
  refine L_mv ?_
  refine L_u (N_cl Tryz.func137 rfl nn137 (fun w Q h => s137 _ w Q h) h) ?_
  intro v w h
  refine L_as ?_
  refine L_nil ?_
  refine E_n ?_
  refine wp_seq ?_
  refine L_region ?_
  refine L_as ?_
  refine L_nil ?_
  refine E_n ?_
  refine wp_seq ?_
  refine L_region ?_
  refine L_mv ?_
  refine L_u (N_cl Tryz.func138 rfl nn138 (fun w Q h => s138 _ _ w Q h) h) ?_
  intro v w h
  refine L_as ?_
  refine L_nil ?_
  refine E_n ?_
  refine wp_seq ?_
  refine wp_seq ?_
  refine L_region ?_
  refine L_mv ?_
  refine L_mv ?_
  refine L_nil ?_
  refine E_n ?_
  refine C_join (fun (k : Value → Value → Value → Value → M) (ρ : Nat → Value) => k (ρ 0) (ρ 4) (ρ 5) (ρ 6)) h (fun j1 J1 h => ?_) (fun ρ w h => ?_)
  · refine C_blk ?_
    refine C_lo (fun (l : Value → Value → Value → Value → Value → Value → M) (ρ : Nat → Value) => l (ρ 0) (ρ 4) (ρ 5) (ρ 6) (ρ 12) (ρ 13)) h (fun ρ w h => h) (fun nx self2 L2 ρ w h => ?_)
    unfold f109_b2 at h
    refine wp_seq ?_
    refine L_region ?_
    refine L_u (P_lt h) ?_
    intro v w h
    refine L_nil ?_
    refine E_n ?_
    refine wp_seq ?_
    refine C_cnd h (fun h => ?_) (fun h => ?_)
    · refine C_skip ?_
      refine E_n ?_
      refine wp_seq ?_
      refine C_blk ?_
      refine L_region ?_
      refine L_mv ?_
      refine L_mv ?_
      refine L_u (N_cl Tryz.func138 rfl nn138 (fun w Q h => s138 _ _ w Q h) h) ?_
      intro v w h
      refine L_u (P_cv ai185 in3 h) ?_
      intro v w h
      refine L_u (N_bsl h) ?_
      intro v w h
      refine L_u (N_bi rfl h) ?_
      intro v w h
      refine L_as ?_
      refine L_nil ?_
      refine B_n ?_
      refine E_n ?_
      refine L_region ?_
      refine L_u (P_ad h) ?_
      intro v w h
      refine L_mv ?_
      refine L_nil ?_
      refine E_n ?_
      exact L2 _ _ h
    · refine C_exit ?_
      refine E_x ?_
      refine E_x ?_
      refine B_x ?_
      exact J1 _ _ h
  · unfold f109_j1 at h
    refine E_n ?_
    refine wp_seq ?_
    refine L_region ?_
    refine L_mv ?_
    refine L_mv ?_
    refine L_u (N_cl Tryz.func140 rfl nn140 (fun w Q h => s140 _ w Q h) h) ?_
    intro v w h
    refine L_u (N_cl Tryz.func139 rfl nn139 (fun w Q h => s139 _ _ w Q h) h) ?_
    intro v w h
    refine L_as ?_
    refine L_nil ?_
    refine E_n ?_
    refine wp_seq ?_
    refine wp_seq ?_
    refine L_region ?_
    refine L_mv ?_
    refine L_u (N_cl Tryz.func141 rfl nn141 (fun w Q h => s141 _ w Q h) h) ?_
    intro v w h
    refine L_u (P_nei h) ?_
    intro v w h
    refine L_mv ?_
    refine L_g (t := 29) h rfl rfl (fun c h => P_mv h c) ?_
    intro v w h
    refine L_g (t := 29) h rfl rfl (fun c h => P_gt h c) ?_
    intro v w h
    refine L_u (P_pk h) ?_
    intro v w h
    refine L_mv ?_
    refine L_g (t := 33) h rfl rfl (fun c h => P_mv h c) ?_
    intro v w h
    refine L_g (t := 33) h rfl rfl (fun c h => N_cl Tryz.func142 rfl nn142 (fun w Q h => s142 _ w Q h) h c) ?_
    intro v w h
    refine L_g (t := 33) h rfl rfl (fun c h => P_nt h c) ?_
    intro v w h
    refine L_u (P_pk h) ?_
    intro v w h
    refine L_mv ?_
    refine L_g (t := 38) h rfl rfl (fun c h => P_mv h c) ?_
    intro v w h
    refine L_g (t := 38) h rfl rfl (fun c h => P_lns st9 h c) ?_
    intro v w h
    refine L_g (t := 38) h rfl rfl (fun c h => P_nei h c) ?_
    intro v w h
    refine L_u (P_pk h) ?_
    intro v w h
    refine L_mv ?_
    refine L_g (t := 43) h rfl rfl (fun c h => P_mv h c) ?_
    intro v w h
    refine L_g (t := 43) h rfl rfl (fun c h => N_cc Tryz.func143 rfl nn143 h c) ?_
    intro v w h
    refine L_g (t := 43) h rfl rfl (fun c h => P_nes h c) ?_
    intro v w h
    refine L_u (P_pk h) ?_
    intro v w h
    refine L_nil ?_
    refine E_n ?_
    refine C_cnd h (fun h => ?_) (fun h => ?_)
    · refine wp_seq ?_
      refine L_region ?_
      refine L_as ?_
      refine L_as ?_
      refine L_nil ?_
      refine E_n ?_
      refine C_ret ?_
      show bodyPost Tryz.prog Tryz.f109 (Rt Q) .ret _ _
      exact post_tmps (ts := [2, 3]) (.inr rfl) rfl h
    · refine C_skip ?_
      refine E_n ?_
      refine wp_seq ?_
      refine L_region ?_
      refine L_mv ?_
      refine L_as ?_
      refine L_as ?_
      refine L_nil ?_
      refine E_n ?_
      refine C_ret ?_
      show bodyPost Tryz.prog Tryz.f109 (Rt Q) .ret _ _
      exact post_tmps (ts := [2, 3]) (.inr rfl) rfl h

def f111 (t0 t1 : Value) : M := mu .i64 (.int .i64 4) t0 fun t6 => ad .i64 (.int .i64 2) t6 fun t7 => ad .i64 t7 t1 fun t9 => rt t9
theorem s111 (t0 t1 : Value) (w : World) (Q : Value → World → Prop) (h : f111 t0 t1 w Q) : Calls Tryz.prog 111 #[t0, t1] w (Rt Q) := by
  refine calls_of (l := [t0, t1]) Tryz.func111 rfl Tryz.ntmps111 (Nat.le_of_ble_eq_true rfl) ?_
  unfold f111 at h
  refine wp_seq ?_
  refine L_region ?_
  refine L_as ?_
  refine L_nil ?_
  refine E_n ?_
  refine wp_seq ?_
  refine L_region ?_
  refine L_mv ?_
  refine L_u (P_mu h) ?_
  intro v w h
  refine L_u (P_ad h) ?_
  intro v w h
  refine L_mv ?_
  refine L_u (P_ad h) ?_
  intro v w h
  refine L_as ?_
  refine L_nil ?_
  refine E_n ?_
  refine C_ret ?_
  show bodyPost Tryz.prog Tryz.f111 (Rt Q) .ret _ _
  exact post_tmps (ts := [4]) (.inr rfl) rfl h

def f110 (t0 t1 : Value) : M := ld t1 fun t4 => cl (f111 t4 t0) fun t6 => rt t6
theorem s110 (t0 t1 : Value) (w : World) (Q : Value → World → Prop) (h : f110 t0 t1 w Q) : Calls Tryz.prog 110 #[t0, t1] w (Rt Q) := by
  refine calls_of (l := [t0, t1]) Tryz.func110 rfl Tryz.ntmps110 (Nat.le_of_ble_eq_true rfl) ?_
  unfold f110 at h
  refine wp_seq ?_
  refine L_region ?_
  refine L_as ?_
  refine L_nil ?_
  refine E_n ?_
  refine wp_seq ?_
  refine L_region ?_
  refine L_u (P_ld sc3 h) ?_
  intro v w h
  refine L_mv ?_
  refine L_u (N_cl Tryz.func111 rfl nn111 (fun w Q h => s111 _ _ w Q h) h) ?_
  intro v w h
  refine L_as ?_
  refine L_nil ?_
  refine E_n ?_
  refine C_ret ?_
  show bodyPost Tryz.prog Tryz.f110 (Rt Q) .ret _ _
  exact post_tmps (ts := [3]) (.inr rfl) rfl h

def f145 (t0 : Value) : M := smr Tryz.prog (do eqGuard .eql 63 (.tmp 3) (.const (.pointer none)) t0 (.pointer none); binOp .eql 63 t0 (.pointer none)) fun t4 => cnd t4 ( rt (.int .i64 1) ) ( nc t0 fun t6 => fa 2 t6 fun t7 => ld t7 fun t8 => ad .i64 t8 (.int .i64 1) fun t9 => nc t0 fun t10 => fa 2 t10 fun t11 => st t11 t9 <| dr <| idv t0 fun t12 => nc t12 fun t13 => fa 2 t13 fun t14 => ld t14 fun t15 => idv t0 fun t16 => nc t16 fun t17 => fa 3 t17 fun t18 => ld t18 fun t19 => gt .i64 t15 t19 fun t20 => cnd t20 ( rt (.int .i64 9) ) ( rt (.int .i64 0) ) )
theorem s145 (t0 : Value) (w : World) (Q : Value → World → Prop) (h : f145 t0 w Q) : Calls Tryz.prog 145 #[t0] w (Rt Q) := by
  refine calls_of (l := [t0]) Tryz.func145 rfl Tryz.ntmps145 (Nat.le_of_ble_eq_true rfl) ?_
  unfold f145 at h
  refine wp_seq ?_
  refine L_region ?_
  refine L_as ?_
  refine L_nil ?_
  refine E_n ?_
  refine wp_seq ?_
  refine wp_seq ?_
  refine L_region ?_
  refine L_mv ?_
  refine L_u (P_smr rfl h) ?_
  intro v w h
  refine L_nil ?_
  refine E_n ?_
  refine C_cnd h (fun h => ?_) (fun h => ?_)
  · refine wp_seq ?_
    refine L_region ?_
    refine L_as ?_
    refine L_nil ?_
    refine E_n ?_
    refine C_ret ?_
    show bodyPost Tryz.prog Tryz.f145 (Rt Q) .ret _ _
    exact post_tmps (ts := [2]) (.inr rfl) rfl h
  · refine C_skip ?_
    refine E_n ?_
    refine wp_seq ?_
    refine L_region ?_
    refine L_mv ?_
    refine L_u (P_nc h) ?_
    intro v w h
    refine L_u (P_fa fo130_2 h) ?_
    intro v w h
    refine L_u (P_ld sc3 h) ?_
    intro v w h
    refine L_u (P_ad h) ?_
    intro v w h
    refine L_u (P_nc h) ?_
    intro v w h
    refine L_u (P_fa fo130_2 h) ?_
    intro v w h
    refine L_u (P_st on3 h) ?_
    intro w h
    refine L_nil ?_
    refine E_n ?_
    refine wp_seq ?_
    refine wp_seq ?_
    refine D_region (by decide +kernel) 9 rfl ?_
    replace h := dr_e h
    refine G_p 0 rfl (by decide +kernel) (Y_mv h) ?_
    intro v h
    refine G_p 1 rfl (by decide +kernel) (Y_nc h) ?_
    intro v h
    refine G_p 2 rfl (by decide +kernel) (Y_fa fo130_2 h) ?_
    intro v h
    refine G_r _ 3 rfl (by decide +kernel) (R_ld sc3 h) ?_
    intro v h
    refine G_p 4 rfl (by decide +kernel) (Y_mv h) ?_
    intro v h
    refine G_p 5 rfl (by decide +kernel) (Y_nc h) ?_
    intro v h
    refine G_p 6 rfl (by decide +kernel) (Y_fa fo130_3 h) ?_
    intro v h
    refine G_r _ 7 rfl (by decide +kernel) (R_ld sc3 h) ?_
    intro v h
    refine G_p 8 rfl (by decide +kernel) (Y_gt h) ?_
    intro v h
    refine G_done (by decide +kernel) ?_
    refine E_n ?_
    refine C_cnd h (fun h => ?_) (fun h => ?_)
    · refine wp_seq ?_
      refine L_region ?_
      refine L_as ?_
      refine L_nil ?_
      refine E_n ?_
      refine C_ret ?_
      show bodyPost Tryz.prog Tryz.f145 (Rt Q) .ret _ _
      exact post_tmps (ts := [2]) (.inr rfl) rfl h
    · refine C_skip ?_
      refine E_n ?_
      refine wp_seq ?_
      refine L_region ?_
      refine L_as ?_
      refine L_nil ?_
      refine E_n ?_
      refine C_ret ?_
      show bodyPost Tryz.prog Tryz.f145 (Rt Q) .ret _ _
      exact post_tmps (ts := [2]) (.inr rfl) rfl h

def f150 (t0 t1 t2 : Value) : M := cl (f145 t0) fun t10 => nei .i64 t10 (.int .i64 0) fun t12 => cnd t12 ( rt t10 ) ( lt .i64 t1 (.int .i64 0) fun t16 => gd t16 false (idv t1) fun t18 => gd t16 false (idv t0) fun t19 => gd t16 false (nc t19) fun t20 => gd t16 false (fa 0 t20) fun t21 => gd t16 false (ld t21) fun t22 => gd t16 false (lnl t22) fun t23 => gd t16 false (ge .i64 t18 t23) fun t24 => pk t16 (.bool true) t24 fun t25 => cnd t25 ( rt (.int .i64 7) ) ( lns t2 fun t28 => gt .i64 t28 (.int .i64 64) fun t29 => cnd t29 ( rt (.int .i64 3) ) ( al 145 (Array.replicate 64 (.int .u8 0)) fun t8 => sla 64 1 t8 none none fun t30 => sm Tryz.prog (Builtin.copy_ #[42, 9] 3 #[t30, t2]) fun t32 => dr <| idv t0 fun t33 => nc t33 fun t34 => fa 1 t34 fun t35 => ld t35 fun t36 => idv t1 fun t37 => ldn 64 t8 fun t38 => smu Tryz.prog (Instr.mapUpdate 128 t36 t37 t38) <| rt (.int .i64 0) ) ) )
theorem s150 (t0 t1 t2 : Value) (w : World) (Q : Value → World → Prop) (h : f150 t0 t1 t2 w Q) : Calls Tryz.prog 150 #[t0, t1, t2] w (Rt Q) := by
  refine calls_of (l := [t0, t1, t2]) Tryz.func150 rfl Tryz.ntmps150 (Nat.le_of_ble_eq_true rfl) ?_
  unfold f150 at h
  refine wp_seq ?_
  refine L_region ?_
  refine L_as ?_
  refine L_nil ?_
  refine E_n ?_
  refine wp_seq ?_
  refine wp_seq ?_
  refine L_region ?_
  refine L_mv ?_
  refine L_u (N_cl Tryz.func145 rfl nn145 (fun w Q h => s145 _ w Q h) h) ?_
  intro v w h
  refine L_as ?_
  refine L_nil ?_
  refine E_n ?_
  refine wp_seq ?_
  refine L_region ?_
  refine L_mv ?_
  refine L_u (P_nei h) ?_
  intro v w h
  refine L_nil ?_
  refine E_n ?_
  refine C_cnd h (fun h => ?_) (fun h => ?_)
  · refine wp_seq ?_
    refine L_region ?_
    refine L_mv ?_
    refine L_as ?_
    refine L_nil ?_
    refine E_n ?_
    refine C_ret ?_
    show bodyPost Tryz.prog Tryz.f150 (Rt Q) .ret _ _
    exact post_tmps (ts := [6]) (.inr rfl) rfl h
  · refine C_skip ?_
    refine E_n ?_
    refine wp_seq ?_
    refine C_blk ?_
    refine wp_seq ?_
    refine L_region ?_
    refine L_mv ?_
    refine L_u (P_lt h) ?_
    intro v w h
    refine L_mv ?_
    refine L_g (t := 17) h rfl rfl (fun c h => P_mv h c) ?_
    intro v w h
    refine L_g (t := 17) h rfl rfl (fun c h => P_mv h c) ?_
    intro v w h
    refine L_g (t := 17) h rfl rfl (fun c h => P_nc h c) ?_
    intro v w h
    refine L_g (t := 17) h rfl rfl (fun c h => P_fa fo130_0 h c) ?_
    intro v w h
    refine L_g (t := 17) h rfl rfl (fun c h => P_ld sc127 h c) ?_
    intro v w h
    refine L_g (t := 17) h rfl rfl (fun c h => P_lnl is127 h c) ?_
    intro v w h
    refine L_g (t := 17) h rfl rfl (fun c h => P_ge h c) ?_
    intro v w h
    refine L_u (P_pk h) ?_
    intro v w h
    refine L_as ?_
    refine L_nil ?_
    refine E_n ?_
    refine C_cnd h (fun h => ?_) (fun h => ?_)
    · refine wp_seq ?_
      refine L_region ?_
      refine L_as ?_
      refine L_nil ?_
      refine E_n ?_
      refine C_ret ?_
      show bodyPost Tryz.prog Tryz.f150 (Rt Q) .ret _ _
      exact post_tmps (ts := [6]) (.inr rfl) rfl h
    · refine wp_seq ?_
      refine L_region ?_
      refine L_mv ?_
      refine L_u (P_lns st9 h) ?_
      intro v w h
      refine L_u (P_gt h) ?_
      intro v w h
      refine L_as ?_
      refine L_nil ?_
      refine E_n ?_
      refine C_cnd h (fun h => ?_) (fun h => ?_)
      · refine wp_seq ?_
        refine L_region ?_
        refine L_as ?_
        refine L_nil ?_
        refine E_n ?_
        refine C_ret ?_
        show bodyPost Tryz.prog Tryz.f150 (Rt Q) .ret _ _
        exact post_tmps (ts := [6]) (.inr rfl) rfl h
      · refine C_skip ?_
        refine B_n ?_
        refine E_n ?_
        refine wp_seq ?_
        refine L_region ?_
        refine L_u (P_al ze145 rfl h) ?_
        intro v w h
        refine L_nil ?_
        refine E_n ?_
        refine wp_seq ?_
        refine L_region ?_
        refine L_u (P_sla ae145 h) ?_
        intro v w h
        refine L_mv ?_
        refine L_u (N_bi rfl h) ?_
        intro v w h
        refine L_nil ?_
        refine E_n ?_
        refine wp_seq ?_
        refine D_region (by decide +kernel) 7 rfl ?_
        replace h := dr_e h
        refine G_p 0 rfl (by decide +kernel) (Y_mv h) ?_
        intro v h
        refine G_p 1 rfl (by decide +kernel) (Y_nc h) ?_
        intro v h
        refine G_p 2 rfl (by decide +kernel) (Y_fa fo130_1 h) ?_
        intro v h
        refine G_r _ 3 rfl (by decide +kernel) (R_ld sc128 h) ?_
        intro v h
        refine G_p 4 rfl (by decide +kernel) (Y_mv h) ?_
        intro v h
        refine G_r _ 5 rfl (by decide +kernel) (R_ldn ag145 h) ?_
        intro v h
        refine G_e 6 rfl (by decide +kernel) (P_smu rfl h ?_)
        intro w h
        refine ⟨keepF_dep [5] (by decide +kernel) rfl (keepF_dep [3] (by decide +kernel) rfl keepF_nil), ?_⟩
        refine G_done (by decide +kernel) ?_
        refine E_n ?_
        refine wp_seq ?_
        refine L_region ?_
        refine L_as ?_
        refine L_nil ?_
        refine E_n ?_
        refine C_ret ?_
        show bodyPost Tryz.prog Tryz.f150 (Rt Q) .ret _ _
        exact post_tmps (ts := [6]) (.inr rfl) rfl h

def f149 (t0 t1 t2 : Value) : M := dr <| ld t0 fun t4 => nc t4 fun t5 => fa 0 t5 fun t6 => ld t6 fun t7 => ld t1 fun t8 => ld t2 fun t9 => cl (f150 t7 t8 t9) fun t10 => idv t10 fun t3 => rt t3
theorem s149 (t0 t1 t2 : Value) (w : World) (Q : Value → World → Prop) (h : f149 t0 t1 t2 w Q) : Calls Tryz.prog 149 #[t0, t1, t2] w (Rt Q) := by
  refine calls_of (l := [t0, t1, t2]) Tryz.func149 rfl Tryz.ntmps149 (Nat.le_of_ble_eq_true rfl) ?_
  unfold f149 at h
  refine wp_seq ?_
  refine L_region ?_
  refine L_as ?_
  refine L_nil ?_
  refine E_n ?_
  refine wp_seq ?_
  refine D_region (by decide +kernel) 8 rfl ?_
  replace h := dr_e h
  refine G_r _ 0 rfl (by decide +kernel) (R_ld sc40 h) ?_
  intro v h
  refine G_p 1 rfl (by decide +kernel) (Y_nc h) ?_
  intro v h
  refine G_p 2 rfl (by decide +kernel) (Y_fa fo133_0 h) ?_
  intro v h
  refine G_r _ 3 rfl (by decide +kernel) (R_ld sc63 h) ?_
  intro v h
  refine G_r _ 4 rfl (by decide +kernel) (R_ld sc3 h) ?_
  intro v h
  refine G_r _ 5 rfl (by decide +kernel) (R_ld sc9 h) ?_
  intro v h
  refine G_e 6 rfl (by decide +kernel) (N_cl Tryz.func150 rfl nn150 (fun w Q h => s150 _ _ _ w Q h) h ?_)
  intro v w h
  refine ⟨keepF_dep [5] (by decide +kernel) rfl (keepF_dep [4] (by decide +kernel) rfl (keepF_dep [3] (by decide +kernel) rfl (keepF_dep [3, 2, 1, 0] (by decide +kernel) rfl keepF_nil))), ?_⟩
  refine G_p 7 rfl (by decide +kernel) (Y_as h) ?_
  intro v h
  refine G_done (by decide +kernel) ?_
  refine E_n ?_
  refine C_ret ?_
  show bodyPost Tryz.prog Tryz.f149 (Rt Q) .ret _ _
  exact post_tmps (ts := [3]) (.inr rfl) rfl h

def f119 (t0 t1 t2 : Value) : M := bx 40 t0 fun t3 => bx 3 t1 fun t4 => bx 9 t2 fun t5 => idv (.func (.func 149) #[] #[t3, t4, t5]) fun t7 => rt t7
theorem s119 (t0 t1 t2 : Value) (w : World) (Q : Value → World → Prop) (h : f119 t0 t1 t2 w Q) : Calls Tryz.prog 119 #[t0, t1, t2] w (Rt Q) := by
  refine calls_of (l := [t0, t1, t2]) Tryz.func119 rfl Tryz.ntmps119 (Nat.le_of_ble_eq_true rfl) ?_
  unfold f119 at h
  refine wp_seq ?_
  refine L_region ?_
  refine L_u (P_bx h) ?_
  intro v w h
  refine L_u (P_bx h) ?_
  intro v w h
  refine L_u (P_bx h) ?_
  intro v w h
  refine L_as ?_
  refine L_nil ?_
  refine E_n ?_
  refine wp_seq ?_
  refine L_region ?_
  refine L_u (N_mf h) ?_
  intro v w h
  refine L_as ?_
  refine L_nil ?_
  refine E_n ?_
  refine C_ret ?_
  show bodyPost Tryz.prog Tryz.f119 (Rt Q) .ret _ _
  exact post_tmps (ts := [6]) (.inr rfl) rfl h

def f144_b2 (j1 : Value → M) (self2 : Value → Value → M) (t0_1 t4 : Value) : M := nes t0_1 (.string ⟨#[]⟩) fun t9 => cnd t9 ( sls t0_1 none (some (.int .i64 64)) fun t12 => sm Tryz.prog (Instr.buildSlice 100 1 #[(0, t12)]) fun t13 => sm Tryz.prog (Builtin.append_ #[100, 100] 100 #[t4, t13]) fun t14 => sls t0_1 (some (.int .i64 64)) none fun t16 => self2 t16 t14 ) ( j1 t4 )
def f144_j1 (t4_1 : Value) : M := rt (.tuple #[t4_1, (.int .i64 0)])
def f144 (t0 : Value) : M := lns t0 fun t6 => nei .i64 t6 (.int .i64 256) fun t7 => cnd t7 ( rt (.tuple #[(.slice none 0 0), (.int .i64 1)]) ) ( jn (fun (j1 : Value → M) => lo (fun _ _ => bot) (f144_b2 j1) (fun l => l t0 (.slice none 0 0)) ) (f144_j1) )
theorem s144 (t0 : Value) (w : World) (Q : Value → World → Prop) (h : f144 t0 w Q) : Calls Tryz.prog 144 #[t0] w (Rt Q) := by
  refine calls_of (l := [t0]) Tryz.func144 rfl Tryz.ntmps144 (Nat.le_of_ble_eq_true rfl) ?_
  unfold f144 at h
  refine wp_seq ?_
  refine L_region ?_
  refine L_as ?_
  refine L_as ?_
  refine L_nil ?_
  refine E_n ?_
  refine wp_seq ?_
  refine wp_seq ?_
  refine L_region ?_
  refine L_mv ?_
  refine L_u (P_lns st9 h) ?_
  intro v w h
  refine L_u (P_nei h) ?_
  intro v w h
  refine L_nil ?_
  refine E_n ?_
  refine C_cnd h (fun h => ?_) (fun h => ?_)
  · refine wp_seq ?_
    refine L_region ?_
    refine L_as ?_
    refine L_as ?_
    refine L_nil ?_
    refine E_n ?_
    refine C_ret ?_
    show bodyPost Tryz.prog Tryz.f144 (Rt Q) .ret _ _
    exact post_tmps (ts := [2, 3]) (.inr rfl) rfl h
  · refine C_skip ?_
    refine E_n ?_
    refine wp_seq ?_
    refine L_region ?_
    refine L_as ?_
    refine L_nil ?_
    refine E_n ?_
    refine wp_seq ?_
    refine C_join (fun (k : Value → M) (ρ : Nat → Value) => k (ρ 4)) h (fun j1 J1 h => ?_) (fun ρ w h => ?_)
    · refine C_blk ?_
      refine C_lo (fun (l : Value → Value → M) (ρ : Nat → Value) => l (ρ 0) (ρ 4)) h (fun ρ w h => h) (fun nx self2 L2 ρ w h => ?_)
      unfold f144_b2 at h
      refine wp_seq ?_
      refine wp_seq ?_
      refine L_region ?_
      refine L_mv ?_
      refine L_u (P_nes h) ?_
      intro v w h
      refine L_nil ?_
      refine E_n ?_
      refine C_cnd h (fun h => ?_) (fun h => ?_)
      · refine C_skip ?_
        refine E_n ?_
        refine C_blk ?_
        refine wp_seq ?_
        refine L_region ?_
        refine L_mv ?_
        refine L_mv ?_
        refine L_u (P_sls st9 h) ?_
        intro v w h
        refine L_u (N_bsl h) ?_
        intro v w h
        refine L_u (N_bi rfl h) ?_
        intro v w h
        refine L_as ?_
        refine L_nil ?_
        refine E_n ?_
        refine L_region ?_
        refine L_mv ?_
        refine L_u (P_sls st9 h) ?_
        intro v w h
        refine L_as ?_
        refine L_nil ?_
        refine B_n ?_
        refine E_n ?_
        exact L2 _ _ h
      · refine C_exit ?_
        refine E_x ?_
        refine E_x ?_
        refine B_x ?_
        exact J1 _ _ h
    · unfold f144_j1 at h
      refine E_n ?_
      refine wp_seq ?_
      refine L_region ?_
      refine L_mv ?_
      refine L_as ?_
      refine L_as ?_
      refine L_nil ?_
      refine E_n ?_
      refine C_ret ?_
      show bodyPost Tryz.prog Tryz.f144 (Rt Q) .ret _ _
      exact post_tmps (ts := [2, 3]) (.inr rfl) rfl h
end Go.Proofs.YtongpnolikkknaaGreatDoor
