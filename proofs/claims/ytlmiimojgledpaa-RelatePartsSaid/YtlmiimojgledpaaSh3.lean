/- For each operation told as a predicate transformer: the machine's operation does what it says. -/
import Derived.Test.YtlmiimojgledpaaSh2
namespace Go.Proofs.Ytlmiimojgledpaa
namespace Sh
section
variable {P : Program} {N : Nat} {ρ : Nat → Value} {w : World} {d : Nat} {ty : TypeId} {pos : String} {aft : Array Edge} {g : Option (Nat × Bool)}
  {next : Act → World → Prop} {Qx : Exit → Act → World → Prop} {Qm : Value → World → Prop} {K : Value → M} {K0 : M}

theorem wp_run {op : Op} {v : Value} {w' : World} (hr : (execOp (opv N ρ) ⟨some d, op, ty, pos, aft, g⟩).run P w = .ok (.value v) w')
    (h : next (act N (upd ρ d v)) w') : Oper.wp P ⟨some d, op, ty, pos, aft, g⟩ (act N ρ) w next Qx := by
  simp only [Oper.wp, eval_act, hr, Oper.upon, put_act]; exact h
theorem wp_run0 {op : Op} {w' : World} (hr : (execOp (opv N ρ) ⟨none, op, ty, pos, aft, g⟩).run P w = .ok .skip w')
    (h : next (act N ρ) w') : Oper.wp P ⟨none, op, ty, pos, aft, g⟩ (act N ρ) w next Qx := by
  simp only [Oper.wp, eval_act, hr, Oper.upon, Act.put]; exact h
/-- a value that nobody takes up -/
theorem wp_runv {op : Op} {v : Value} {w' : World} (hr : (execOp (opv N ρ) ⟨none, op, ty, pos, aft, g⟩).run P w = .ok (.value v) w')
    (h : next (act N ρ) w') : Oper.wp P ⟨none, op, ty, pos, aft, g⟩ (act N ρ) w next Qx := by
  simp only [Oper.wp, eval_act, hr, Oper.upon, Act.put]; exact h

/-! stepping over an operation, guarded or not -/
theorem L_u {all : Array Oper} {r : List Oper} {dst : Option Tmp} {op : Op} {X : Prop}
    (hp : X → Oper.wp P ⟨dst, op, ty, pos, aft, none⟩ (act N ρ) w (wpL P all Qx r) Qx) (c : X) : wpL P all Qx (⟨dst, op, ty, pos, aft, none⟩ :: r) (act N ρ) w := by
  simp only [wpL, Region.wanted, if_true]; exact hp c
theorem wanted_act {all : Array Oper} {dst : Option Tmp} {op : Op} {j t : Nat} {want : Bool} (hj : (all[j]?).bind (·.dst) = some t) (ht : Nat.blt t N = true) :
    Region.wanted ⟨dst, op, ty, pos, aft, some (j, want)⟩ (yielded all (act N ρ).tmps) = gdB (ρ t) want := by
  have hy : yielded all (act N ρ).tmps j = match ρ t with | .bool b => some b | _ => none := by
    unfold yielded
    rw [hj]
    have h : t < N := by simpa using ht
    simp [act, h]
    generalize ρ t = z
    cases z <;> rfl
  simp only [Region.wanted, hy, gdB]
  cases ρ t <;> simp
theorem L_g {all : Array Oper} {r : List Oper} {op : Op} {j t : Nat} {want : Bool} {A : (Value → M) → M}
    (h : gd (ρ t) want A K w Qm) (hj : (all[j]?).bind (·.dst) = some t) (ht : Nat.blt t N = true)
    (hp : (∀ v w', K v w' Qm → wpL P all Qx r (act N (upd ρ d v)) w') → A K w Qm → Oper.wp P ⟨some d, op, ty, pos, aft, some (j, want)⟩ (act N ρ) w (wpL P all Qx r) Qx)
    (c : ∀ v w', K v w' Qm → wpL P all Qx r (act N (upd ρ d v)) w') : wpL P all Qx (⟨some d, op, ty, pos, aft, some (j, want)⟩ :: r) (act N ρ) w := by
  simp only [wpL, wanted_act hj ht]
  unfold gd at h
  cases hb : gdB (ρ t) want <;> rw [hb] at h
  · simp only [cond_false, Bool.false_eq_true, if_false, put_act] at h ⊢; exact c _ _ h
  · simp only [cond_true, if_true] at h ⊢; exact hp c h
theorem L_g0 {all : Array Oper} {r : List Oper} {op : Op} {j t : Nat} {want : Bool} {A : M → M}
    (h : gdu (ρ t) want A K0 w Qm) (hj : (all[j]?).bind (·.dst) = some t) (ht : Nat.blt t N = true)
    (hp : (∀ w', K0 w' Qm → wpL P all Qx r (act N ρ) w') → A K0 w Qm → Oper.wp P ⟨none, op, ty, pos, aft, some (j, want)⟩ (act N ρ) w (wpL P all Qx r) Qx)
    (c : ∀ w', K0 w' Qm → wpL P all Qx r (act N ρ) w') : wpL P all Qx (⟨none, op, ty, pos, aft, some (j, want)⟩ :: r) (act N ρ) w := by
  simp only [wpL, wanted_act hj ht]
  unfold gdu at h
  cases hb : gdB (ρ t) want <;> rw [hb] at h
  · simp only [cond_false, Bool.false_eq_true, if_false, Act.put] at h ⊢; exact c _ h
  · simp only [cond_true, if_true] at h ⊢; exact hp c h
theorem L_mv {all : Array Oper} {r : List Oper} {x : Operand} (h : wpL P all Qx r (act N (upd ρ d (opv N ρ x))) w) : wpL P all Qx (⟨some d, .move x, ty, pos, aft, none⟩ :: r) (act N ρ) w := by
  simp only [wpL, Region.wanted, if_true]; exact wp_run (by simp [execOp]) h
theorem L_as {all : Array Oper} {r : List Oper} {x : Operand} (h : wpL P all Qx r (act N (upd ρ d (opv N ρ x))) w) : wpL P all Qx (⟨some d, .assign x, ty, pos, aft, none⟩ :: r) (act N ρ) w := by
  simp only [wpL, Region.wanted, if_true]; exact wp_run (by simp [execOp]) h
def idv (x : Value) (K : Value → M) : M := K x
theorem P_mv {x : Operand} (h : idv (opv N ρ x) K w Qm) (c : ∀ v w', K v w' Qm → next (act N (upd ρ d v)) w') : Oper.wp P ⟨some d, .move x, ty, pos, aft, g⟩ (act N ρ) w next Qx :=
  wp_run (by simp [execOp]) (c _ _ h)
theorem P_as {x : Operand} (h : idv (opv N ρ x) K w Qm) (c : ∀ v w', K v w' Qm → next (act N (upd ρ d v)) w') : Oper.wp P ⟨some d, .assign x, ty, pos, aft, g⟩ (act N ρ) w next Qx :=
  wp_run (by simp [execOp]) (c _ _ h)

/-! the operations -/
theorem P_nc {x : Operand} (h : nc (opv N ρ x) K w Qm) (c : ∀ v w', K v w' Qm → next (act N (upd ρ d v)) w') : Oper.wp P ⟨some d, .nilCheck x, ty, pos, aft, g⟩ (act N ρ) w next Qx := by
  obtain ⟨h1, h2⟩ := h
  refine wp_run ?_ (c _ _ h2)
  revert h1
  simp only [execOp]
  generalize opv N ρ x = v
  intro h1
  cases v with
  | pointer a => cases a <;> simp [okNil] at h1 ⊢
  | func f => cases f <;> simp [okNil] at h1 ⊢
  | _ => simp [okNil] at h1 ⊢
theorem run_isAgg_sc {t : TypeId} (h : isSc P t = true) : (isAgg t).run P w = .ok false w := by
  unfold isSc at h
  cases hu : P.underlying t with
  | none => simp [hu] at h
  | some x => cases x <;> simp [hu] at h <;> simp [isAgg, underlying, hu]
theorem run_isAgg_ag {t : TypeId} {n : Nat} (h : isAg P t n = true) : (isAgg t).run P w = .ok true w := by
  unfold isAg at h
  cases hu : P.underlying t with
  | none => simp [hu] at h
  | some x => cases x <;> simp [hu] at h <;> simp [isAgg, underlying, hu]
theorem run_sizeOf_ag {t : TypeId} {n : Nat} (h : isAg P t n = true) : (sizeOf t).run P w = .ok n w := by
  unfold isAg at h
  cases hu : P.info? t with
  | none => simp [hu] at h
  | some i => simp [hu] at h; simp [sizeOf, typeInfo, hu, h.2]
theorem run_sizeOf_one {t : TypeId} (h : isOne P t = true) : (sizeOf t).run P w = .ok 1 w := by
  unfold isOne at h
  cases hu : P.info? t with
  | none => simp [hu] at h
  | some i => simp [hu] at h; simp [sizeOf, typeInfo, hu, h]
theorem P_ld {t : TypeId} {x : Operand} (ht : isSc P t = true) (h : ld (opv N ρ x) K w Qm) (c : ∀ v w', K v w' Qm → next (act N (upd ρ d v)) w') : Oper.wp P ⟨some d, .load t x, ty, pos, aft, g⟩ (act N ρ) w next Qx := by
  obtain ⟨a, v, hx, hv, hk⟩ := h
  refine wp_run ?_ (c _ _ hk)
  simp [execOp, hx, Instr.loadAt, Instr.sureAddr, loadVar, run_isAgg_sc ht, hv]
theorem run_loadCellsFrom_rds {a : Addr} {cs : Array Value} (h : rds w a cs) : ∀ (n i : Nat) (acc : Array Value), i + n = cs.size → (loadCellsFrom a i n acc).run P w = .ok (acc ++ cs.extract i cs.size) w := by
  intro n
  induction n with
  | zero => intro i acc hi; simp only [loadCellsFrom, Sem.run_pure]; congr 1; apply Array.ext' ; simp; omega
  | succ n ih =>
    intro i acc hi
    have hlt : i < cs.size := by omega
    have hv := h i cs[i] (by simp [hlt])
    simp only [loadCellsFrom, Sem.run_bind, run_load, hv, Result.andThen_ok]
    rw [ih (i + 1) _ (by omega)]
    congr 1
    apply Array.ext'
    simp only [Array.toList_append, Array.toList_push, Array.toList_extract, List.append_assoc]
    congr 1
    rw [List.extract_eq_take_drop, List.extract_eq_take_drop]
    have : List.drop i cs.toList = cs[i] :: List.drop (i + 1) cs.toList := by
      rw [List.drop_eq_getElem_cons (by simpa using hlt)]; simp
    rw [this, show cs.size - i = (cs.size - (i + 1)) + 1 from by omega]
    simp
theorem P_ldn {t : TypeId} {n : Nat} {x : Operand} (ht : isAg P t n = true) (h : ldn n (opv N ρ x) K w Qm) (c : ∀ v w', K v w' Qm → next (act N (upd ρ d v)) w') : Oper.wp P ⟨some d, .load t x, ty, pos, aft, g⟩ (act N ρ) w next Qx := by
  obtain ⟨a, cs, hx, hn, hv, hk⟩ := h
  refine wp_run ?_ (c _ _ hk)
  have := run_loadCellsFrom_rds (P := P) hv n 0 #[] (by omega)
  simp [execOp, hx, Instr.loadAt, Instr.sureAddr, loadVar, run_isAgg_ag ht, run_sizeOf_ag ht, loadCells, this]
theorem P_st {t : TypeId} {x v : Operand} (ht : isOne P t = true) (h : st (opv N ρ x) (opv N ρ v) K0 w Qm) (c : ∀ w', K0 w' Qm → next (act N ρ) w') : Oper.wp P ⟨none, .store t x v, ty, pos, aft, g⟩ (act N ρ) w next Qx := by
  obtain ⟨a, hx, hc, hf, ho, hk⟩ := h
  refine wp_run0 ?_ (c _ hk)
  have hcells : (opv N ρ v).cells = #[opv N ρ v] := by revert ho; generalize opv N ρ v = y; cases y <;> simp [Value.cells, Value.oneCell']
  obtain ⟨u, hu⟩ := Option.isSome_iff_exists.1 hc
  have := run_store P w a (opv N ρ v) .plain ho
  have h0 : a.add 0 = a := rfl
  simp [execOp, hx, Instr.storeAt, Instr.sureAddr, storeVar, hcells, run_sizeOf_one ht, storeCells, h0, this, hu, hf]
theorem run_storeCells_sts : ∀ (l : List Value) (w w' : World) (a : Addr) (i : Nat), sts w a l i = some w' → (storeCells a l i).run P w = .ok () w' := by
  intro l
  induction l with
  | nil => intro w w' a i h; simp [sts] at h; subst h; simp [storeCells]
  | cons v l ih =>
    intro w w' a i h
    simp only [sts] at h
    split at h
    · rename_i hc
      simp only [Bool.and_eq_true, Bool.not_eq_true'] at hc
      obtain ⟨⟨h1, h2⟩, h3⟩ := hc
      obtain ⟨u, hu⟩ := Option.isSome_iff_exists.1 h1
      have := run_store P w (a.add i) v .plain h3
      simp only [storeCells, Sem.run_bind, this, hu, h2, Bool.false_eq_true, if_false, Result.andThen_ok]
      exact ih _ _ _ _ h
    · cases h
theorem P_stn {t : TypeId} {n : Nat} {x v : Operand} (ht : isAg P t n = true) (h : stn n (opv N ρ x) (opv N ρ v) K0 w Qm) (c : ∀ w', K0 w' Qm → next (act N ρ) w') : Oper.wp P ⟨none, .store t x v, ty, pos, aft, g⟩ (act N ρ) w next Qx := by
  obtain ⟨a, cs, w', hx, hv, hn, hs, hk⟩ := h
  refine wp_run0 ?_ (c _ hk)
  have := run_storeCells_sts (P := P) _ _ _ _ _ hs
  simp [execOp, hx, hv, Instr.storeAt, Instr.sureAddr, storeVar, Value.cells, run_sizeOf_ag ht, hn, this]
theorem P_fa {s f k : Nat} {x : Operand} (ht : fOff P s f k = true) (h : fa k (opv N ρ x) K w Qm) (c : ∀ v w', K v w' Qm → next (act N (upd ρ d v)) w') : Oper.wp P ⟨some d, .fieldAddr s x f, ty, pos, aft, g⟩ (act N ρ) w next Qx := by
  obtain ⟨a, hx, hk⟩ := h
  refine wp_run ?_ (c _ _ hk)
  unfold fOff at ht
  split at ht
  · rename_i fs hu
    split at ht
    · rename_i fd hfd
      simp only [Bool.and_eq_true, beq_iff_eq] at ht
      obtain ⟨h1, h2⟩ := ht
      split at h2
      · rename_i i hi
        have hs : (sizeOf fd.type).run P w = .ok i.size w := by simp [sizeOf, typeInfo, hi]
        have h2' : ¬ i.size = 0 := by simpa using h2
        simp [execOp, hx, Instr.fieldAt, underlying, hu, hfd, Instr.sureAddr, fieldPlace, hs, h2', h1]
      · cases h2
    · cases ht
  · cases ht
theorem P_fld {s f k : Nat} {x : Operand} {ft : TypeId} (ht : fOff P s f k = true) (hs : (match P.underlying s with | some (.struct fs) => (fs[f]?).map (·.type) | _ => none) = some ft) (hsc : isSc P ft = true)
    (h : fld k (opv N ρ x) K w Qm) (c : ∀ v w', K v w' Qm → next (act N (upd ρ d v)) w') : Oper.wp P ⟨some d, .field s x f, ty, pos, aft, g⟩ (act N ρ) w next Qx := by
  obtain ⟨cs, v, hx, hv, hk⟩ := h
  refine wp_run ?_ (c _ _ hk)
  unfold fOff at ht
  cases hu : P.underlying s with
  | none => simp [hu] at ht
  | some x' =>
    cases x' <;> simp [hu] at ht hs
    rename_i fs
    obtain ⟨fd, hfd, hft⟩ := hs
    simp [hfd] at ht
    simp [execOp, hx, Instr.field, underlying, hu, hfd, asAgg, part, hft, run_isAgg_sc hsc, ht.1, hv]
theorem P_fldn {s f k n : Nat} {x : Operand} {ft : TypeId} (ht : fOff P s f k = true) (hs : (match P.underlying s with | some (.struct fs) => (fs[f]?).map (·.type) | _ => none) = some ft) (hsc : isAg P ft n = true)
    (h : fldn k n (opv N ρ x) K w Qm) (c : ∀ v w', K v w' Qm → next (act N (upd ρ d v)) w') : Oper.wp P ⟨some d, .field s x f, ty, pos, aft, g⟩ (act N ρ) w next Qx := by
  obtain ⟨cs, hx, hk⟩ := h
  refine wp_run ?_ (c _ _ hk)
  unfold fOff at ht
  cases hu : P.underlying s with
  | none => simp [hu] at ht
  | some x' =>
    cases x' <;> simp [hu] at ht hs
    rename_i fs
    obtain ⟨fd, hfd, hft⟩ := hs
    simp [hfd] at ht
    simp [execOp, hx, Instr.field, underlying, hu, hfd, asAgg, part, hft, run_isAgg_ag hsc, run_sizeOf_ag hsc, ht.1]
theorem P_ad {k : IntKind} {t t2 : TypeId} {x y : Operand} (h : ad k (opv N ρ x) (opv N ρ y) K w Qm) (c : ∀ v w', K v w' Qm → next (act N (upd ρ d v)) w') : Oper.wp P ⟨some d, .binOp .add t x y t2, ty, pos, aft, g⟩ (act N ρ) w next Qx := by
  obtain ⟨a, b, hx, hy, hk⟩ := h
  exact wp_run (by simp [execOp, hx, hy, eqGuard, binOp, Op.intArith]) (c _ _ hk)
theorem P_su {k : IntKind} {t t2 : TypeId} {x y : Operand} (h : su k (opv N ρ x) (opv N ρ y) K w Qm) (c : ∀ v w', K v w' Qm → next (act N (upd ρ d v)) w') : Oper.wp P ⟨some d, .binOp .sub t x y t2, ty, pos, aft, g⟩ (act N ρ) w next Qx := by
  obtain ⟨a, b, hx, hy, hk⟩ := h
  exact wp_run (by simp [execOp, hx, hy, eqGuard, binOp, Op.intArith]) (c _ _ hk)
theorem P_mu {k : IntKind} {t t2 : TypeId} {x y : Operand} (h : mu k (opv N ρ x) (opv N ρ y) K w Qm) (c : ∀ v w', K v w' Qm → next (act N (upd ρ d v)) w') : Oper.wp P ⟨some d, .binOp .mul t x y t2, ty, pos, aft, g⟩ (act N ρ) w next Qx := by
  obtain ⟨a, b, hx, hy, hk⟩ := h
  exact wp_run (by simp [execOp, hx, hy, eqGuard, binOp, Op.intArith]) (c _ _ hk)
theorem P_qu {k : IntKind} {t t2 : TypeId} {x y : Operand} (h : qu k (opv N ρ x) (opv N ρ y) K w Qm) (c : ∀ v w', K v w' Qm → next (act N (upd ρ d v)) w') : Oper.wp P ⟨some d, .binOp .quo t x y t2, ty, pos, aft, g⟩ (act N ρ) w next Qx := by
  obtain ⟨a, b, hx, hy, hb, hk⟩ := h
  exact wp_run (by simp [execOp, hx, hy, eqGuard, binOp, Op.intDiv, hb]) (c _ _ hk)
theorem P_re {k : IntKind} {t t2 : TypeId} {x y : Operand} (h : re k (opv N ρ x) (opv N ρ y) K w Qm) (c : ∀ v w', K v w' Qm → next (act N (upd ρ d v)) w') : Oper.wp P ⟨some d, .binOp .rem t x y t2, ty, pos, aft, g⟩ (act N ρ) w next Qx := by
  obtain ⟨a, b, hx, hy, hb, hk⟩ := h
  exact wp_run (by simp [execOp, hx, hy, eqGuard, binOp, Op.intDiv, hb]) (c _ _ hk)
theorem P_lt {k : IntKind} {t t2 : TypeId} {x y : Operand} (h : lt k (opv N ρ x) (opv N ρ y) K w Qm) (c : ∀ v w', K v w' Qm → next (act N (upd ρ d v)) w') : Oper.wp P ⟨some d, .binOp .lss t x y t2, ty, pos, aft, g⟩ (act N ρ) w next Qx := by
  obtain ⟨a, b, hx, hy, hk⟩ := h
  exact wp_run (by simp [execOp, hx, hy, eqGuard, binOp, Op.intCmp]) (c _ _ hk)
theorem P_le {k : IntKind} {t t2 : TypeId} {x y : Operand} (h : le k (opv N ρ x) (opv N ρ y) K w Qm) (c : ∀ v w', K v w' Qm → next (act N (upd ρ d v)) w') : Oper.wp P ⟨some d, .binOp .leq t x y t2, ty, pos, aft, g⟩ (act N ρ) w next Qx := by
  obtain ⟨a, b, hx, hy, hk⟩ := h
  exact wp_run (by simp [execOp, hx, hy, eqGuard, binOp, Op.intCmp]) (c _ _ hk)
theorem P_gt {k : IntKind} {t t2 : TypeId} {x y : Operand} (h : gt k (opv N ρ x) (opv N ρ y) K w Qm) (c : ∀ v w', K v w' Qm → next (act N (upd ρ d v)) w') : Oper.wp P ⟨some d, .binOp .gtr t x y t2, ty, pos, aft, g⟩ (act N ρ) w next Qx := by
  obtain ⟨a, b, hx, hy, hk⟩ := h
  exact wp_run (by simp [execOp, hx, hy, eqGuard, binOp, Op.intCmp, GT.gt]) (c _ _ hk)
theorem P_ge {k : IntKind} {t t2 : TypeId} {x y : Operand} (h : ge k (opv N ρ x) (opv N ρ y) K w Qm) (c : ∀ v w', K v w' Qm → next (act N (upd ρ d v)) w') : Oper.wp P ⟨some d, .binOp .geq t x y t2, ty, pos, aft, g⟩ (act N ρ) w next Qx := by
  obtain ⟨a, b, hx, hy, hk⟩ := h
  exact wp_run (by simp [execOp, hx, hy, eqGuard, binOp, Op.intCmp, GE.ge]) (c _ _ hk)
theorem P_eqi {k : IntKind} {t t2 : TypeId} {x y : Operand} (h : eqi k (opv N ρ x) (opv N ρ y) K w Qm) (c : ∀ v w', K v w' Qm → next (act N (upd ρ d v)) w') : Oper.wp P ⟨some d, .binOp .eql t x y t2, ty, pos, aft, g⟩ (act N ρ) w next Qx := by
  obtain ⟨a, b, hx, hy, hk⟩ := h
  refine wp_run ?_ (c _ _ hk)
  simp [execOp, hx, hy, eqGuard, binOp, Op.intCmp]
  rfl
theorem P_nei {k : IntKind} {t t2 : TypeId} {x y : Operand} (h : nei k (opv N ρ x) (opv N ρ y) K w Qm) (c : ∀ v w', K v w' Qm → next (act N (upd ρ d v)) w') : Oper.wp P ⟨some d, .binOp .neq t x y t2, ty, pos, aft, g⟩ (act N ρ) w next Qx := by
  obtain ⟨a, b, hx, hy, hk⟩ := h
  refine wp_run ?_ (c _ _ hk)
  have e : (a != b) = decide (a ≠ b) := by by_cases h : a = b <;> simp [h]
  simp [execOp, hx, hy, eqGuard, binOp, Op.intCmp]
  rw [e]; simp
end
end Sh
end Go.Proofs.Ytlmiimojgledpaa
