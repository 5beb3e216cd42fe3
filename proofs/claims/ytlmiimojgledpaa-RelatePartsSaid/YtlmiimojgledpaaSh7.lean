/- Calls and the operations of several operands, their operands as lists; joins, loops, ends. -/
import Derived.Test.YtlmiimojgledpaaSh6
set_option linter.unusedSimpArgs false
set_option linter.unusedVariables false
namespace Go.Proofs.Ytlmiimojgledpaa
namespace Sh
section
variable {P : Program} {N : Nat} {ρ : Nat → Value} {w : World} {d : Nat} {ty : TypeId} {pos : String} {aft : Array Edge} {g : Option (Nat × Bool)}
  {next : Act → World → Prop} {Qx : Exit → Act → World → Prop} {Qm : Value → World → Prop} {K : Value → M} {K0 : M}

theorem map_l (l : List Operand) : (l.toArray.map (opv N ρ)) = (l.map (opv N ρ)).toArray := by simp

theorem N_cc {fn : Func} {b : Code} {f : FuncId} {l : List Operand} {ts : Array TypeId} (hf : P.funcs[f]? = some fn) (hb : fn.body = some b) (hn : (fn.name == "runtime.NumGoroutine") = false)
    (h : cc P f (l.map (opv N ρ)).toArray K w Qm) (c : ∀ v w', K v w' Qm → next (act N (upd ρ d v)) w') : Oper.wp P ⟨some d, .call ⟨.value (.func f), l.toArray, ts⟩, ty, pos, aft, g⟩ (act N ρ) w next Qx :=
  P_cc hf hb hn (by rw [map_l]; exact h) c
theorem N_cl {fn : Func} {b : Code} {f : FuncId} {F : M} {l : List Operand} {ts : Array TypeId} (hf : P.funcs[f]? = some fn) (hb : fn.body = some b) (hn : (fn.name == "runtime.NumGoroutine") = false)
    (hs : ∀ w Q, F w Q → Calls P f (l.map (opv N ρ)).toArray w (Rt Q))
    (h : cl F K w Qm) (c : ∀ v w', K v w' Qm → next (act N (upd ρ d v)) w') : Oper.wp P ⟨some d, .call ⟨.value (.func f), l.toArray, ts⟩, ty, pos, aft, g⟩ (act N ρ) w next Qx :=
  P_cl hf hb hn (fun w Q hF => by rw [map_l]; exact hs w Q hF) h c
theorem N_ccn {fn : Func} {b : Code} {f : FuncId} {l : List Operand} {ts : Array TypeId} (hf : P.funcs[f]? = some fn) (hb : fn.body = some b) (hn : (fn.name == "runtime.NumGoroutine") = false)
    (h : cc P f (l.map (opv N ρ)).toArray (fun _ => K0) w Qm) (c : ∀ w', K0 w' Qm → next (act N ρ) w') : Oper.wp P ⟨none, .call ⟨.value (.func f), l.toArray, ts⟩, ty, pos, aft, g⟩ (act N ρ) w next Qx :=
  P_ccn hf hb hn (by rw [map_l]; exact h) c
theorem N_cln {fn : Func} {b : Code} {f : FuncId} {F : M} {l : List Operand} {ts : Array TypeId} (hf : P.funcs[f]? = some fn) (hb : fn.body = some b) (hn : (fn.name == "runtime.NumGoroutine") = false)
    (hs : ∀ w Q, F w Q → Calls P f (l.map (opv N ρ)).toArray w (Rt Q))
    (h : cl F (fun _ => K0) w Qm) (c : ∀ w', K0 w' Qm → next (act N ρ) w') : Oper.wp P ⟨none, .call ⟨.value (.func f), l.toArray, ts⟩, ty, pos, aft, g⟩ (act N ρ) w next Qx :=
  P_cln hf hb hn (fun w Q hF => by rw [map_l]; exact hs w Q hF) h c
theorem N_cf {x : Operand} {l : List Operand} {ts : Array TypeId} (h : cf P (opv N ρ x) (l.map (opv N ρ)).toArray K w Qm) (c : ∀ v w', K v w' Qm → next (act N (upd ρ d v)) w') : Oper.wp P ⟨some d, .call ⟨.value x, l.toArray, ts⟩, ty, pos, aft, g⟩ (act N ρ) w next Qx :=
  P_cf (by rw [map_l]; exact h) c
theorem N_ci {x : Operand} {m : String} {l : List Operand} {ts : Array TypeId} (h : ci P (opv N ρ x) m (l.map (opv N ρ)).toArray K w Qm) (c : ∀ v w', K v w' Qm → next (act N (upd ρ d v)) w') : Oper.wp P ⟨some d, .call ⟨.invoke x m, l.toArray, ts⟩, ty, pos, aft, g⟩ (act N ρ) w next Qx :=
  P_ci (by rw [map_l]; exact h) c
theorem N_cin {x : Operand} {m : String} {l : List Operand} {ts : Array TypeId} (h : ci P (opv N ρ x) m (l.map (opv N ρ)).toArray (fun _ => K0) w Qm) (c : ∀ w', K0 w' Qm → next (act N ρ) w') : Oper.wp P ⟨none, .call ⟨.invoke x m, l.toArray, ts⟩, ty, pos, aft, g⟩ (act N ρ) w next Qx :=
  P_cin (by rw [map_l]; exact h) c
theorem N_mf {fn : Fn} {l1 l2 : List Operand} (h : idv (.func fn (l1.map (opv N ρ)).toArray (l2.map (opv N ρ)).toArray) K w Qm) (c : ∀ v w', K v w' Qm → next (act N (upd ρ d v)) w') : Oper.wp P ⟨some d, .makeFunc fn l1.toArray l2.toArray, ty, pos, aft, g⟩ (act N ρ) w next Qx :=
  P_mf (by rw [map_l, map_l]; exact h) c
theorem Y_nmf {fn : Fn} {l1 l2 : List Operand} (h : idv (.func fn (l1.map (opv N ρ)).toArray (l2.map (opv N ρ)).toArray) K w Qm) :
    ∃ v, (∀ w', (execOp (opv N ρ) ⟨some d, .makeFunc fn l1.toArray l2.toArray, ty, pos, aft, g⟩).run P w' = .ok (.value v) w') ∧ K v w Qm :=
  Y_mf (by rw [map_l, map_l]; exact h)
theorem map_p (l : List (Nat × Operand)) : (l.toArray.map fun (i, x) => (i, opv N ρ x)) = (l.map fun p => (p.1, opv N ρ p.2)).toArray := by simp
theorem N_bld {t : TypeId} {l : List (Nat × Operand)} (h : smr P (Instr.build t (l.map fun p => (p.1, opv N ρ p.2)).toArray) K w Qm) (c : ∀ v w', K v w' Qm → next (act N (upd ρ d v)) w') : Oper.wp P ⟨some d, .build t l.toArray, ty, pos, aft, g⟩ (act N ρ) w next Qx :=
  P_smr (by simp only [execOp]; rw [map_p]) h c
theorem R_bld {t : TypeId} {l : List (Nat × Operand)} (h : smr P (Instr.build t (l.map fun p => (p.1, opv N ρ p.2)).toArray) K w Qm) :
    ∃ v, Ksm P (Instr.build t (l.map fun p => (p.1, opv N ρ p.2)).toArray) v w ∧ (∀ w', Ksm P (Instr.build t (l.map fun p => (p.1, opv N ρ p.2)).toArray) v w' → (execOp (opv N ρ) ⟨some d, .build t l.toArray, ty, pos, aft, g⟩).run P w' = .ok (.value v) w') ∧ K v w Qm :=
  R_sm (by simp only [execOp]; rw [map_p]) h
theorem N_bsl {t : TypeId} {n : Nat} {l : List (Nat × Operand)} (h : sm P (Instr.buildSlice t n (l.map fun p => (p.1, opv N ρ p.2)).toArray) K w Qm) (c : ∀ v w', K v w' Qm → next (act N (upd ρ d v)) w') : Oper.wp P ⟨some d, .buildSlice t n l.toArray, ty, pos, aft, g⟩ (act N ρ) w next Qx :=
  P_sm (by simp only [execOp]; rw [map_p]) h c
theorem exec_bi {dst : Option Tmp} {b : Builtin} {l : List Operand} {ts : Array TypeId} : execOp (opv N ρ) ⟨dst, .call ⟨.builtin b, l.toArray, ts⟩, ty, pos, aft, g⟩ = builtin b ts ty (l.toArray.map fun | .const _ => true | _ => false) (l.map (opv N ρ)).toArray := by
  simp [execOp, resolve, invoke]
  rfl
theorem N_bi {b : Builtin} {l : List Operand} {ts : Array TypeId} {s : Sem Value} (he : builtin b ts ty (l.toArray.map fun | .const _ => true | _ => false) (l.map (opv N ρ)).toArray = (do pure (.value (← s))))
    (h : sm P s K w Qm) (c : ∀ v w', K v w' Qm → next (act N (upd ρ d v)) w') : Oper.wp P ⟨some d, .call ⟨.builtin b, l.toArray, ts⟩, ty, pos, aft, g⟩ (act N ρ) w next Qx :=
  P_sm (by rw [exec_bi, he]) h c
theorem N_bin {b : Builtin} {l : List Operand} {ts : Array TypeId} {s : Sem Value} (he : builtin b ts ty (l.toArray.map fun | .const _ => true | _ => false) (l.map (opv N ρ)).toArray = (do pure (.value (← s))))
    (h : sm P s (fun _ => K0) w Qm) (c : ∀ w', K0 w' Qm → next (act N ρ) w') : Oper.wp P ⟨none, .call ⟨.builtin b, l.toArray, ts⟩, ty, pos, aft, g⟩ (act N ρ) w next Qx :=
  P_smn (by rw [exec_bi, he]) h c

/-! joins and loops -/
def jn {α : Type} (F : α → M) (k : α) : M := F k
def itr {α : Type} (b : α) (F : α → α) : Nat → α
  | 0 => b
  | n + 1 => F (itr b F n)
def lo {α : Type} (b : α) (F : α → α) (ap0 : α → M) : M := fun w Q => ∃ n, ap0 (itr b F n) w Q
theorem C_join {α : Type} {c : Code} (ap : α → (Nat → Value) → M) {F : α → M} {k : α} (h : jn F k w Qm)
    (hb : ∀ k', (∀ ρ w, ap k' ρ w Qm → Qx .normal (act N ρ) w) → F k' w Qm → c.wp P Qx (act N ρ) w)
    (hj : ∀ ρ w, ap k ρ w Qm → Qx .normal (act N ρ) w) : c.wp P Qx (act N ρ) w := hb k hj h
theorem C_blk {id : Nat} {c : Code} {a : Act} (h : c.wp P (Exit.inBlock id Qx) a w) : (Code.block id c).wp P Qx a w := wp_block h
theorem C_lo {α : Type} {c : Code} (ap : α → (Nat → Value) → M) {b : α} {F : α → α} (h : lo b F (fun l => ap l ρ) w Qm)
    (hbot : ∀ ρ w, ap b ρ w Qm → False)
    (round : ∀ (next : Act → World → Prop) (self : α), (∀ ρ w, ap self ρ w Qm → next (act N ρ) w) → ∀ ρ w, ap (F self) ρ w Qm → c.wp P (Exit.then next Qx) (act N ρ) w) :
    (Code.loop c).wp P Qx (act N ρ) w := by
  obtain ⟨n, h⟩ := h
  refine C_loop (fun n a w => ∃ ρ, a = act N ρ ∧ ap (itr b F n) ρ w Qm) (n := n) ⟨ρ, rfl, h⟩ ?_
  rintro n _ w ⟨ρ, rfl, h⟩
  cases n with
  | zero => exact (hbot _ _ h).elim
  | succ n => exact round _ (itr b F n) (fun ρ' w' h' => ⟨n, Nat.lt_succ_self n, ρ', rfl, h'⟩) ρ w h
theorem E_n {nx : Act → World → Prop} {a : Act} (h : nx a w) : Exit.then nx Qx .normal a w := h
theorem E_x {nx : Act → World → Prop} {a : Act} {id : Nat} (h : Qx (.exit id) a w) : Exit.then nx Qx (.exit id) a w := h
theorem E_r {nx : Act → World → Prop} {a : Act} (h : Qx .ret a w) : Exit.then nx Qx .ret a w := h
theorem B_n {a : Act} {id : Nat} (h : Qx .normal a w) : Exit.inBlock id Qx .normal a w := h
theorem B_r {a : Act} {id : Nat} (h : Qx .ret a w) : Exit.inBlock id Qx .ret a w := h
theorem B_x {a : Act} {id : Nat} (h : Qx .normal a w) : Exit.inBlock id Qx (.exit id) a w := by simp only [Exit.inBlock, if_true]; exact h
theorem B_o {a : Act} {id id' : Nat} (hn : Nat.beq id' id = false) (h : Qx (.exit id') a w) : Exit.inBlock id Qx (.exit id') a w := by
  have : ¬ id' = id := fun e => by rw [e] at hn; simp at hn
  simp only [Exit.inBlock, if_neg this]; exact h
end
end Sh
end Go.Proofs.Ytlmiimojgledpaa
