/- Operations that look at no memory, and reads: what they yield in whatever world. Written by program out of the texts before. -/
import Derived.Test.YtlmiimojgledpaaSh5
set_option linter.unusedSimpArgs false
set_option linter.unusedVariables false
namespace Go.Proofs.Ytlmiimojgledpaa
namespace Sh
section
variable {P : Program} {N : Nat} {ρ : Nat → Value} {w : World} {d : Nat} {ty : TypeId} {pos : String} {aft : Array Edge} {g : Option (Nat × Bool)}
  {Qm : Value → World → Prop} {K : Value → M} {K0 : M}

theorem Y_mv {x : Operand} (h : idv (opv N ρ x) K w Qm) :
    ∃ v, (∀ w', (execOp (opv N ρ) ⟨some d, .move x, ty, pos, aft, g⟩).run P w' = .ok (.value v) w') ∧ K v w Qm :=
  ⟨_, (fun w => by simp [execOp]), h⟩

theorem Y_as {x : Operand} (h : idv (opv N ρ x) K w Qm) :
    ∃ v, (∀ w', (execOp (opv N ρ) ⟨some d, .assign x, ty, pos, aft, g⟩).run P w' = .ok (.value v) w') ∧ K v w Qm :=
  ⟨_, (fun w => by simp [execOp]), h⟩


theorem Y_nc {x : Operand} (h : nc (opv N ρ x) K w Qm) :
    ∃ v, (∀ w', (execOp (opv N ρ) ⟨some d, .nilCheck x, ty, pos, aft, g⟩).run P w' = .ok (.value v) w') ∧ K v w Qm := by
  obtain ⟨h1, h2⟩ := h
  refine ⟨_, fun w => ?_, h2⟩
  revert h1
  simp only [execOp]
  generalize opv N ρ x = v
  intro h1
  cases v with
  | pointer a => cases a <;> simp [okNil] at h1 ⊢
  | func f => cases f <;> simp [okNil] at h1 ⊢
  | _ => simp [okNil] at h1 ⊢

theorem Y_fa {s f k : Nat} {x : Operand} (ht : fOff P s f k = true) (h : fa k (opv N ρ x) K w Qm) :
    ∃ v, (∀ w', (execOp (opv N ρ) ⟨some d, .fieldAddr s x f, ty, pos, aft, g⟩).run P w' = .ok (.value v) w') ∧ K v w Qm := by
  obtain ⟨a, hx, hk⟩ := h
  refine ⟨_, fun w => ?_, hk⟩
  unfold fOff at ht
  split at ht
  · rename_i fs hu
    split at ht
    · rename_i fd hfd
      simp only [Bool.and_eq_true, beq_iff_eq] at ht
      obtain ⟨h1, h2⟩ := ht
      split at h2
      · rename_i i hi
        have hs : (sizeOf fd.type).run P w = .ok i.size w := by simp [sizeOf, typeInfo, hi]
        have h2' : ¬ i.size = 0 := by simpa using h2
        simp [execOp, hx, Instr.fieldAt, underlying, hu, hfd, Instr.sureAddr, fieldPlace, hs, h2', h1]
      · cases h2
    · cases ht
  · cases ht

theorem Y_fld {s f k : Nat} {x : Operand} {ft : TypeId} (ht : fOff P s f k = true) (hs : (match P.underlying s with | some (.struct fs) => (fs[f]?).map (·.type) | _ => none) = some ft) (hsc : isSc P ft = true)
    (h : fld k (opv N ρ x) K w Qm) :
    ∃ v, (∀ w', (execOp (opv N ρ) ⟨some d, .field s x f, ty, pos, aft, g⟩).run P w' = .ok (.value v) w') ∧ K v w Qm := by
  obtain ⟨cs, v, hx, hv, hk⟩ := h
  refine ⟨_, fun w => ?_, hk⟩
  unfold fOff at ht
  cases hu : P.underlying s with
  | none => simp [hu] at ht
  | some x' =>
    cases x' <;> simp [hu] at ht hs
    rename_i fs
    obtain ⟨fd, hfd, hft⟩ := hs
    simp [hfd] at ht
    simp [execOp, hx, Instr.field, underlying, hu, hfd, asAgg, part, hft, run_isAgg_sc hsc, ht.1, hv]

theorem Y_fldn {s f k n : Nat} {x : Operand} {ft : TypeId} (ht : fOff P s f k = true) (hs : (match P.underlying s with | some (.struct fs) => (fs[f]?).map (·.type) | _ => none) = some ft) (hsc : isAg P ft n = true)
    (h : fldn k n (opv N ρ x) K w Qm) :
    ∃ v, (∀ w', (execOp (opv N ρ) ⟨some d, .field s x f, ty, pos, aft, g⟩).run P w' = .ok (.value v) w') ∧ K v w Qm := by
  obtain ⟨cs, hx, hk⟩ := h
  refine ⟨_, fun w => ?_, hk⟩
  unfold fOff at ht
  cases hu : P.underlying s with
  | none => simp [hu] at ht
  | some x' =>
    cases x' <;> simp [hu] at ht hs
    rename_i fs
    obtain ⟨fd, hfd, hft⟩ := hs
    simp [hfd] at ht
    simp [execOp, hx, Instr.field, underlying, hu, hfd, asAgg, part, hft, run_isAgg_ag hsc, run_sizeOf_ag hsc, ht.1]

theorem Y_ad {k : IntKind} {t t2 : TypeId} {x y : Operand} (h : ad k (opv N ρ x) (opv N ρ y) K w Qm) :
    ∃ v, (∀ w', (execOp (opv N ρ) ⟨some d, .binOp .add t x y t2, ty, pos, aft, g⟩).run P w' = .ok (.value v) w') ∧ K v w Qm := by
  obtain ⟨a, b, hx, hy, hk⟩ := h
  exact ⟨_, (fun w => by simp [execOp, hx, hy, eqGuard, binOp, Op.intArith]), hk⟩

theorem Y_su {k : IntKind} {t t2 : TypeId} {x y : Operand} (h : su k (opv N ρ x) (opv N ρ y) K w Qm) :
    ∃ v, (∀ w', (execOp (opv N ρ) ⟨some d, .binOp .sub t x y t2, ty, pos, aft, g⟩).run P w' = .ok (.value v) w') ∧ K v w Qm := by
  obtain ⟨a, b, hx, hy, hk⟩ := h
  exact ⟨_, (fun w => by simp [execOp, hx, hy, eqGuard, binOp, Op.intArith]), hk⟩

theorem Y_mu {k : IntKind} {t t2 : TypeId} {x y : Operand} (h : mu k (opv N ρ x) (opv N ρ y) K w Qm) :
    ∃ v, (∀ w', (execOp (opv N ρ) ⟨some d, .binOp .mul t x y t2, ty, pos, aft, g⟩).run P w' = .ok (.value v) w') ∧ K v w Qm := by
  obtain ⟨a, b, hx, hy, hk⟩ := h
  exact ⟨_, (fun w => by simp [execOp, hx, hy, eqGuard, binOp, Op.intArith]), hk⟩

theorem Y_qu {k : IntKind} {t t2 : TypeId} {x y : Operand} (h : qu k (opv N ρ x) (opv N ρ y) K w Qm) :
    ∃ v, (∀ w', (execOp (opv N ρ) ⟨some d, .binOp .quo t x y t2, ty, pos, aft, g⟩).run P w' = .ok (.value v) w') ∧ K v w Qm := by
  obtain ⟨a, b, hx, hy, hb, hk⟩ := h
  exact ⟨_, (fun w => by simp [execOp, hx, hy, eqGuard, binOp, Op.intDiv, hb]), hk⟩

theorem Y_re {k : IntKind} {t t2 : TypeId} {x y : Operand} (h : re k (opv N ρ x) (opv N ρ y) K w Qm) :
    ∃ v, (∀ w', (execOp (opv N ρ) ⟨some d, .binOp .rem t x y t2, ty, pos, aft, g⟩).run P w' = .ok (.value v) w') ∧ K v w Qm := by
  obtain ⟨a, b, hx, hy, hb, hk⟩ := h
  exact ⟨_, (fun w => by simp [execOp, hx, hy, eqGuard, binOp, Op.intDiv, hb]), hk⟩

theorem Y_lt {k : IntKind} {t t2 : TypeId} {x y : Operand} (h : lt k (opv N ρ x) (opv N ρ y) K w Qm) :
    ∃ v, (∀ w', (execOp (opv N ρ) ⟨some d, .binOp .lss t x y t2, ty, pos, aft, g⟩).run P w' = .ok (.value v) w') ∧ K v w Qm := by
  obtain ⟨a, b, hx, hy, hk⟩ := h
  exact ⟨_, (fun w => by simp [execOp, hx, hy, eqGuard, binOp, Op.intCmp]), hk⟩

theorem Y_le {k : IntKind} {t t2 : TypeId} {x y : Operand} (h : le k (opv N ρ x) (opv N ρ y) K w Qm) :
    ∃ v, (∀ w', (execOp (opv N ρ) ⟨some d, .binOp .leq t x y t2, ty, pos, aft, g⟩).run P w' = .ok (.value v) w') ∧ K v w Qm := by
  obtain ⟨a, b, hx, hy, hk⟩ := h
  exact ⟨_, (fun w => by simp [execOp, hx, hy, eqGuard, binOp, Op.intCmp]), hk⟩

theorem Y_gt {k : IntKind} {t t2 : TypeId} {x y : Operand} (h : gt k (opv N ρ x) (opv N ρ y) K w Qm) :
    ∃ v, (∀ w', (execOp (opv N ρ) ⟨some d, .binOp .gtr t x y t2, ty, pos, aft, g⟩).run P w' = .ok (.value v) w') ∧ K v w Qm := by
  obtain ⟨a, b, hx, hy, hk⟩ := h
  exact ⟨_, (fun w => by simp [execOp, hx, hy, eqGuard, binOp, Op.intCmp, GT.gt]), hk⟩

theorem Y_ge {k : IntKind} {t t2 : TypeId} {x y : Operand} (h : ge k (opv N ρ x) (opv N ρ y) K w Qm) :
    ∃ v, (∀ w', (execOp (opv N ρ) ⟨some d, .binOp .geq t x y t2, ty, pos, aft, g⟩).run P w' = .ok (.value v) w') ∧ K v w Qm := by
  obtain ⟨a, b, hx, hy, hk⟩ := h
  exact ⟨_, (fun w => by simp [execOp, hx, hy, eqGuard, binOp, Op.intCmp, GE.ge]), hk⟩

theorem Y_eqi {k : IntKind} {t t2 : TypeId} {x y : Operand} (h : eqi k (opv N ρ x) (opv N ρ y) K w Qm) :
    ∃ v, (∀ w', (execOp (opv N ρ) ⟨some d, .binOp .eql t x y t2, ty, pos, aft, g⟩).run P w' = .ok (.value v) w') ∧ K v w Qm := by
  obtain ⟨a, b, hx, hy, hk⟩ := h
  refine ⟨_, fun w => ?_, hk⟩
  simp [execOp, hx, hy, eqGuard, binOp, Op.intCmp]
  rfl

theorem Y_nei {k : IntKind} {t t2 : TypeId} {x y : Operand} (h : nei k (opv N ρ x) (opv N ρ y) K w Qm) :
    ∃ v, (∀ w', (execOp (opv N ρ) ⟨some d, .binOp .neq t x y t2, ty, pos, aft, g⟩).run P w' = .ok (.value v) w') ∧ K v w Qm := by
  obtain ⟨a, b, hx, hy, hk⟩ := h
  refine ⟨_, fun w => ?_, hk⟩
  have e : (a != b) = decide (a ≠ b) := by by_cases h : a = b <;> simp [h]
  simp [execOp, hx, hy, eqGuard, binOp, Op.intCmp]
  rw [e]; simp

theorem Y_bits {k : IntKind} {op : BinOp} {t t2 : TypeId} {x y : Operand} (ho : (match op with | .and | .or | .xor | .andNot => true | _ => false) = true) (h : bws op k (opv N ρ x) (opv N ρ y) K w Qm) :
    ∃ v, (∀ w', (execOp (opv N ρ) ⟨some d, .binOp op t x y t2, ty, pos, aft, g⟩).run P w' = .ok (.value v) w') ∧ K v w Qm := by
  obtain ⟨a, b, v, hx, hy, hv, hk⟩ := h
  refine ⟨_, fun w => ?_, hk⟩
  have := hv P w
  cases op <;> simp at ho <;> simp [execOp, hx, hy, eqGuard, binOp, this]

theorem Y_shl {k j : IntKind} {t t2 : TypeId} {x y : Operand} (h : shl k j (opv N ρ x) (opv N ρ y) K w Qm) :
    ∃ v, (∀ w', (execOp (opv N ρ) ⟨some d, .binOp .shl t x y t2, ty, pos, aft, g⟩).run P w' = .ok (.value v) w') ∧ K v w Qm := by
  obtain ⟨a, b, hx, hy, hb, hk⟩ := h
  refine ⟨_, fun w => ?_, hk⟩
  simp [execOp, hx, hy, eqGuard, binOp, Op.shift, show ¬ b < 0 from by omega]

theorem Y_shr {k j : IntKind} {t t2 : TypeId} {x y : Operand} (h : shr k j (opv N ρ x) (opv N ρ y) K w Qm) :
    ∃ v, (∀ w', (execOp (opv N ρ) ⟨some d, .binOp .shr t x y t2, ty, pos, aft, g⟩).run P w' = .ok (.value v) w') ∧ K v w Qm := by
  obtain ⟨a, b, hx, hy, hb, hk⟩ := h
  refine ⟨_, fun w => ?_, hk⟩
  simp [execOp, hx, hy, eqGuard, binOp, Op.shift, show ¬ b < 0 from by omega]

theorem Y_cat {t t2 : TypeId} {x y : Operand} (h : cat (opv N ρ x) (opv N ρ y) K w Qm) :
    ∃ v, (∀ w', (execOp (opv N ρ) ⟨some d, .binOp .add t x y t2, ty, pos, aft, g⟩).run P w' = .ok (.value v) w') ∧ K v w Qm := by
  obtain ⟨a, b, hx, hy, hn, hk⟩ := h
  refine ⟨_, fun w => ?_, hk⟩
  have : ¬ (((a.size + b.size : Nat) : Int) > IntKind.i64.max) := by
    have e : IntKind.i64.max = 9223372036854775807 := by decide
    rw [e]; omega
  simp only [execOp, hx, hy, eqGuard, binOp, Op.stringOp, if_neg this]
  simp

theorem Y_eqs {t t2 : TypeId} {x y : Operand} (h : eqs (opv N ρ x) (opv N ρ y) K w Qm) :
    ∃ v, (∀ w', (execOp (opv N ρ) ⟨some d, .binOp .eql t x y t2, ty, pos, aft, g⟩).run P w' = .ok (.value v) w') ∧ K v w Qm := by
  obtain ⟨a, b, hx, hy, hk⟩ := h
  refine ⟨_, fun w => ?_, hk⟩
  simp only [execOp, hx, hy, eqGuard, binOp, Op.stringOp, toList_eq]
  simp

theorem Y_nes {t t2 : TypeId} {x y : Operand} (h : nes (opv N ρ x) (opv N ρ y) K w Qm) :
    ∃ v, (∀ w', (execOp (opv N ρ) ⟨some d, .binOp .neq t x y t2, ty, pos, aft, g⟩).run P w' = .ok (.value v) w') ∧ K v w Qm := by
  obtain ⟨a, b, hx, hy, hk⟩ := h
  refine ⟨_, fun w => ?_, hk⟩
  simp only [execOp, hx, hy, eqGuard, binOp, Op.stringOp, toList_eq]
  simp

theorem Y_lts {t t2 : TypeId} {x y : Operand} (h : lts (opv N ρ x) (opv N ρ y) K w Qm) :
    ∃ v, (∀ w', (execOp (opv N ρ) ⟨some d, .binOp .lss t x y t2, ty, pos, aft, g⟩).run P w' = .ok (.value v) w') ∧ K v w Qm := by
  obtain ⟨a, b, hx, hy, hk⟩ := h
  refine ⟨_, fun w => ?_, hk⟩
  simp only [execOp, hx, hy, eqGuard, binOp, Op.stringOp]
  simp

theorem Y_gts {t t2 : TypeId} {x y : Operand} (h : gts (opv N ρ x) (opv N ρ y) K w Qm) :
    ∃ v, (∀ w', (execOp (opv N ρ) ⟨some d, .binOp .gtr t x y t2, ty, pos, aft, g⟩).run P w' = .ok (.value v) w') ∧ K v w Qm := by
  obtain ⟨a, b, hx, hy, hk⟩ := h
  refine ⟨_, fun w => ?_, hk⟩
  simp only [execOp, hx, hy, eqGuard, binOp, Op.stringOp]
  simp

theorem Y_eqb {t t2 : TypeId} {x y : Operand} (ht : isBool P t = true) (h : eqb (opv N ρ x) (opv N ρ y) K w Qm) :
    ∃ v, (∀ w', (execOp (opv N ρ) ⟨some d, .binOp .eql t x y t2, ty, pos, aft, g⟩).run P w' = .ok (.value v) w') ∧ K v w Qm := by
  obtain ⟨a, b, hx, hy, hk⟩ := h
  refine ⟨_, fun w => ?_, hk⟩
  unfold isBool at ht
  cases hu : P.underlying t with
  | none => simp [hu] at ht
  | some u =>
    cases u <;> simp [hu] at ht
    have := equalIn_bool (w := w) hu 9999 a b
    have e : Op.equal t (.bool a) (.bool b) = Op.equalIn (9999 + 1) t (.bool a) (.bool b) := rfl
    simp [execOp, hx, hy, eqGuard, binOp, e, this]

theorem Y_neb {t t2 : TypeId} {x y : Operand} (ht : isBool P t = true) (h : neb (opv N ρ x) (opv N ρ y) K w Qm) :
    ∃ v, (∀ w', (execOp (opv N ρ) ⟨some d, .binOp .neq t x y t2, ty, pos, aft, g⟩).run P w' = .ok (.value v) w') ∧ K v w Qm := by
  obtain ⟨a, b, hx, hy, hk⟩ := h
  refine ⟨_, fun w => ?_, hk⟩
  unfold isBool at ht
  cases hu : P.underlying t with
  | none => simp [hu] at ht
  | some u =>
    cases u <;> simp [hu] at ht
    have := equalIn_bool (w := w) hu 9999 a b
    have e : Op.equal t (.bool a) (.bool b) = Op.equalIn (9999 + 1) t (.bool a) (.bool b) := rfl
    simp [execOp, hx, hy, eqGuard, binOp, e, this]

theorem Y_nt {t : TypeId} {x : Operand} (h : nt (opv N ρ x) K w Qm) :
    ∃ v, (∀ w', (execOp (opv N ρ) ⟨some d, .unOp .not t x, ty, pos, aft, g⟩).run P w' = .ok (.value v) w') ∧ K v w Qm := by
  obtain ⟨a, hx, hk⟩ := h
  exact ⟨_, (fun w => by simp [execOp, hx, Op.unary]), hk⟩

theorem Y_pk {x y z : Operand} (h : pk (opv N ρ x) (opv N ρ y) (opv N ρ z) K w Qm) :
    ∃ v, (∀ w', (execOp (opv N ρ) ⟨some d, .pick x y z, ty, pos, aft, g⟩).run P w' = .ok (.value v) w') ∧ K v w Qm := by
  obtain ⟨b, hx, hk⟩ := h
  refine ⟨_, fun w => ?_, hk⟩
  cases b <;> simp [execOp, hx, asBool]

theorem Y_cv {k : IntKind} {s t : TypeId} {x : Operand} (hs : (match P.underlying s with | some (.int _) => true | _ => false) = true) (ht : isInt P t k = true) (h : cv k (opv N ρ x) K w Qm) :
    ∃ v, (∀ w', (execOp (opv N ρ) ⟨some d, .convert s t x, ty, pos, aft, g⟩).run P w' = .ok (.value v) w') ∧ K v w Qm := by
  obtain ⟨j, a, hx, hk⟩ := h
  refine ⟨_, fun w => ?_, hk⟩
  unfold isInt at ht
  cases hu : P.underlying t with
  | none => simp [hu] at ht
  | some u =>
    cases u <;> simp [hu] at ht
    cases hv : P.underlying s with
    | none => simp [hv] at hs
    | some u' =>
      cases u' <;> simp [hv] at hs
      subst ht
      simp [execOp, hx, convert, underlying, hu, hv, Conv.intToInt]

theorem Y_ex {i : Nat} {x : Operand} (h : ex i (opv N ρ x) K w Qm) :
    ∃ v, (∀ w', (execOp (opv N ρ) ⟨some d, .extract x i, ty, pos, aft, g⟩).run P w' = .ok (.value v) w') ∧ K v w Qm := by
  obtain ⟨vs, v, hx, hv, hk⟩ := h
  exact ⟨_, (fun w => by simp [execOp, hx, Instr.extract, hv]), hk⟩

theorem Y_lnl {t : TypeId} {x : Operand} (ht : isSl P t = true) (h : lnl (opv N ρ x) K w Qm) :
    ∃ v, (∀ w', (execOp (opv N ρ) ⟨some d, .call ⟨.builtin .len, #[x], #[t]⟩, ty, pos, aft, g⟩).run P w' = .ok (.value v) w') ∧ K v w Qm := by
  obtain ⟨a, l, cp, hx, hk⟩ := h
  refine ⟨_, fun w => ?_, hk⟩
  unfold isSl at ht
  cases hu : P.underlying t with
  | none => simp [hu] at ht
  | some u =>
    cases u <;> simp [hu] at ht
    simp [execOp, hx, resolve, invoke, builtin, Builtin.len_, underlying, hu, goInt]

theorem Y_lns {t : TypeId} {x : Operand} (ht : isStr P t = true) (h : lns (opv N ρ x) K w Qm) :
    ∃ v, (∀ w', (execOp (opv N ρ) ⟨some d, .call ⟨.builtin .len, #[x], #[t]⟩, ty, pos, aft, g⟩).run P w' = .ok (.value v) w') ∧ K v w Qm := by
  obtain ⟨s, hx, hk⟩ := h
  refine ⟨_, fun w => ?_, hk⟩
  unfold isStr at ht
  cases hu : P.underlying t with
  | none => simp [hu] at ht
  | some u =>
    cases u <;> simp [hu] at ht
    simp [execOp, hx, resolve, invoke, builtin, Builtin.len_, underlying, hu, goInt]

theorem Y_mnm {t : TypeId} {x y : Operand} {ts : Array TypeId} (h : mnm (opv N ρ x) (opv N ρ y) K w Qm) :
    ∃ v, (∀ w', (execOp (opv N ρ) ⟨some d, .call ⟨.builtin .min, #[x, y], ts⟩, ty, pos, aft, g⟩).run P w' = .ok (.value v) w') ∧ K v w Qm := by
  obtain ⟨k, a, b, hx, hy, hk⟩ := h
  refine ⟨_, fun w => ?_, hk⟩
  simp [execOp, hx, hy, resolve, invoke, builtin, Builtin.min_, Builtin.min2]

theorem Y_mxm {t : TypeId} {x y : Operand} {ts : Array TypeId} (h : mxm (opv N ρ x) (opv N ρ y) K w Qm) :
    ∃ v, (∀ w', (execOp (opv N ρ) ⟨some d, .call ⟨.builtin .max, #[x, y], ts⟩, ty, pos, aft, g⟩).run P w' = .ok (.value v) w') ∧ K v w Qm := by
  obtain ⟨k, a, b, hx, hy, hk⟩ := h
  refine ⟨_, fun w => ?_, hk⟩
  simp [execOp, hx, hy, resolve, invoke, builtin, Builtin.max_, Builtin.max2]

theorem Y_ia {t : TypeId} {n : Nat} {x y : Operand} (ht : slE P t n = true) (h : ia n (opv N ρ x) (opv N ρ y) K w Qm) :
    ∃ v, (∀ w', (execOp (opv N ρ) ⟨some d, .indexAddr t x y, ty, pos, aft, g⟩).run P w' = .ok (.value v) w') ∧ K v w Qm := by
  obtain ⟨a, l, cp, k, j, hx, hy, h0, hl, hk⟩ := h
  refine ⟨_, fun w => ?_, hk⟩
  unfold slE at ht
  cases hu : P.underlying t with
  | none => simp [hu] at ht
  | some u =>
    cases u <;> simp [hu] at ht
    obtain ⟨i, hi, hs⟩ := ht
    simp [execOp, hx, hy, Instr.indexAt, asIntOf, underlying, hu, sizeOf, typeInfo, hi, hs, h0, hl]

theorem Y_iaa {t : TypeId} {len n : Nat} {x y : Operand} (ht : arE P t len n = true) (h : iaa len n (opv N ρ x) (opv N ρ y) K w Qm) :
    ∃ v, (∀ w', (execOp (opv N ρ) ⟨some d, .indexAddr t x y, ty, pos, aft, g⟩).run P w' = .ok (.value v) w') ∧ K v w Qm := by
  obtain ⟨a, k, j, hx, hy, h0, hl, hk⟩ := h
  refine ⟨_, fun w => ?_, hk⟩
  unfold arE at ht
  cases hu : P.underlying t with
  | none => simp [hu] at ht
  | some u =>
    cases u <;> simp [hu] at ht
    obtain ⟨h1, i, hi, hs⟩ := ht
    subst h1
    simp [execOp, hx, hy, Instr.indexAt, Instr.sureAddr, asIntOf, underlying, hu, sizeOf, typeInfo, hi, hs, h0, hl]

theorem Y_ixs {t : TypeId} {x y : Operand} (ht : isStr P t = true) (h : ixs (opv N ρ x) (opv N ρ y) K w Qm) :
    ∃ v, (∀ w', (execOp (opv N ρ) ⟨some d, .index t x y, ty, pos, aft, g⟩).run P w' = .ok (.value v) w') ∧ K v w Qm := by
  obtain ⟨s, k, j, b, hx, hy, h0, hb, hk⟩ := h
  refine ⟨_, fun w => ?_, hk⟩
  unfold isStr at ht
  cases hu : P.underlying t with
  | none => simp [hu] at ht
  | some u =>
    cases u <;> simp [hu] at ht
    simp [execOp, hx, hy, Instr.index, asIntOf, underlying, hu, h0, hb]

theorem Y_sls {t : TypeId} {x : Operand} {lo hi : Option Operand} (ht : isStr P t = true) (h : sls (opv N ρ x) (lo.map (opv N ρ)) (hi.map (opv N ρ)) K w Qm) :
    ∃ v, (∀ w', (execOp (opv N ρ) ⟨some d, .slice t x lo hi none, ty, pos, aft, g⟩).run P w' = .ok (.value v) w') ∧ K v w Qm := by
  obtain ⟨s, l, hh, hx, h1, h2, hk⟩ := h
  refine ⟨_, fun w => ?_, hk⟩
  unfold isStr at ht
  cases hu : P.underlying t with
  | none => simp [hu] at ht
  | some u =>
    cases u <;> simp [hu] at ht
    cases lo with
    | none =>
      simp only [Option.map_none] at h2
      have h2' : l = 0 := h2
      subst h2'
      cases hi with
      | none => have h1' : hh = s.size := h1; subst h1'; simp [execOp, hx, Instr.sliceAt, Instr.slice, underlying, hu, Instr.sliceBounds]
      | some y => have := run_bound (P := P) (w := w) (code := .sliceAlen) h1 rfl; simp [execOp, hx, Instr.sliceAt, Instr.slice, underlying, hu, Instr.sliceBounds, this]
    | some z =>
      have h2' := run_bound (P := P) (w := w) (code := .sliceB) h2 rfl
      cases hi with
      | none => have h1' : hh = s.size := h1; subst h1'; simp [execOp, hx, Instr.sliceAt, Instr.slice, underlying, hu, Instr.sliceBounds, h2']
      | some y => have := run_bound (P := P) (w := w) (code := .sliceAlen) h1 rfl; simp [execOp, hx, Instr.sliceAt, Instr.slice, underlying, hu, Instr.sliceBounds, this, h2']

theorem Y_sll {t : TypeId} {n : Nat} {x : Operand} {lo hi : Option Operand} (ht : slE P t n = true) (h : sll n (opv N ρ x) (lo.map (opv N ρ)) (hi.map (opv N ρ)) K w Qm) :
    ∃ v, (∀ w', (execOp (opv N ρ) ⟨some d, .slice t x lo hi none, ty, pos, aft, g⟩).run P w' = .ok (.value v) w') ∧ K v w Qm := by
  obtain ⟨a, len, cap, l, hh, hx, h1, h2, hk⟩ := h
  refine ⟨_, fun w => ?_, hk⟩
  unfold slE at ht
  cases hu : P.underlying t with
  | none => simp [hu] at ht
  | some u =>
    cases u <;> simp [hu] at ht
    obtain ⟨i, hi', hs⟩ := ht
    cases lo with
    | none =>
      have h2' : l = 0 := h2
      subst h2'
      cases hi with
      | none => have h1' : hh = len := h1; subst h1'; simp [execOp, hx, Instr.sliceAt, Instr.slice, underlying, hu, Instr.sliceBounds, sizeOf, typeInfo, hi', hs]
      | some y => have := run_bound (P := P) (w := w) (code := .sliceAcap) h1 rfl; simp [execOp, hx, Instr.sliceAt, Instr.slice, underlying, hu, Instr.sliceBounds, this, sizeOf, typeInfo, hi', hs]
    | some z =>
      have h2' := run_bound (P := P) (w := w) (code := .sliceB) h2 rfl
      cases hi with
      | none => have h1' : hh = len := h1; subst h1'; simp [execOp, hx, Instr.sliceAt, Instr.slice, underlying, hu, Instr.sliceBounds, h2', sizeOf, typeInfo, hi', hs]
      | some y => have := run_bound (P := P) (w := w) (code := .sliceAcap) h1 rfl; simp [execOp, hx, Instr.sliceAt, Instr.slice, underlying, hu, Instr.sliceBounds, this, h2', sizeOf, typeInfo, hi', hs]

theorem Y_sla {t : TypeId} {len n : Nat} {x : Operand} {lo hi : Option Operand} (ht : arE P t len n = true) (h : sla len n (opv N ρ x) (lo.map (opv N ρ)) (hi.map (opv N ρ)) K w Qm) :
    ∃ v, (∀ w', (execOp (opv N ρ) ⟨some d, .slice t x lo hi none, ty, pos, aft, g⟩).run P w' = .ok (.value v) w') ∧ K v w Qm := by
  obtain ⟨a, l, hh, hx, h1, h2, hk⟩ := h
  refine ⟨_, fun w => ?_, hk⟩
  unfold arE at ht
  cases hu : P.underlying t with
  | none => simp [hu] at ht
  | some u =>
    cases u <;> simp [hu] at ht
    obtain ⟨h3, i, hi', hs⟩ := ht
    subst h3
    cases lo with
    | none =>
      have h2' : l = 0 := h2
      subst h2'
      cases hi with
      | none => have h1' := h1; simp only [Option.map_none, bnd] at h1'; subst h1'; simp [execOp, hx, Instr.sliceAt, Instr.sureAddr, underlying, hu, Instr.sliceBounds, sizeOf, typeInfo, hi', hs]
      | some y => have := run_bound (P := P) (w := w) (code := .sliceAlen) h1 rfl; simp [execOp, hx, Instr.sliceAt, Instr.sureAddr, underlying, hu, Instr.sliceBounds, this, sizeOf, typeInfo, hi', hs]
    | some z =>
      have h2' := run_bound (P := P) (w := w) (code := .sliceB) h2 rfl
      cases hi with
      | none => have h1' := h1; simp only [Option.map_none, bnd] at h1'; subst h1'; simp [execOp, hx, Instr.sliceAt, Instr.sureAddr, underlying, hu, Instr.sliceBounds, h2', sizeOf, typeInfo, hi', hs]
      | some y => have := run_bound (P := P) (w := w) (code := .sliceAlen) h1 rfl; simp [execOp, hx, Instr.sliceAt, Instr.sureAddr, underlying, hu, Instr.sliceBounds, this, h2', sizeOf, typeInfo, hi', hs]

theorem Y_mif {t : TypeId} {x : Operand} (ht : isConc P t = true) (h : mif t (opv N ρ x) K w Qm) :
    ∃ v, (∀ w', (execOp (opv N ρ) ⟨some d, .makeInterface t x, ty, pos, aft, g⟩).run P w' = .ok (.value v) w') ∧ K v w Qm := by
  refine ⟨_, fun w => ?_, h⟩
  unfold isConc at ht
  cases hu : P.underlying t with
  | none => simp [hu] at ht
  | some u => cases u <;> simp [hu] at ht <;> simp [execOp, Instr.makeInterface, underlying, hu]

theorem Y_mf {fn : Fn} {first cap : Array Operand} (h : idv (.func fn (first.map (opv N ρ)) (cap.map (opv N ρ))) K w Qm) :
    ∃ v, (∀ w', (execOp (opv N ρ) ⟨some d, .makeFunc fn first cap, ty, pos, aft, g⟩).run P w' = .ok (.value v) w') ∧ K v w Qm :=
  ⟨_, (fun w => by simp [execOp, Instr.makeFunc]), h⟩

theorem Y_asrt {s t : TypeId} {x : Operand} (ht : isConc P t = true) (h : asrt t (opv N ρ x) K w Qm) :
    ∃ v, (∀ w', (execOp (opv N ρ) ⟨some d, .typeAssert x s t false, ty, pos, aft, g⟩).run P w' = .ok (.value v) w') ∧ K v w Qm := by
  obtain ⟨v, hx, hk⟩ := h
  refine ⟨_, fun w => ?_, hk⟩
  unfold isConc at ht
  cases hu : P.underlying t with
  | none => simp [hu] at ht
  | some u => cases u <;> simp [hu] at ht <;> simp [execOp, hx, Instr.typeAssert, underlying, hu]

def Kld (x v : Value) (w : World) : Prop := ∃ a, x = .pointer (some a) ∧ w.cell? a = some v
def Kldn (n : Nat) (x v : Value) (w : World) : Prop := ∃ a cs, x = .pointer (some a) ∧ cs.size = n ∧ rds w a cs ∧ v = .agg cs
theorem R_ld {t : TypeId} {x : Operand} (ht : isSc P t = true) (h : ld (opv N ρ x) K w Qm) :
    ∃ v, Kld (opv N ρ x) v w ∧ (∀ w', Kld (opv N ρ x) v w' → (execOp (opv N ρ) ⟨some d, .load t x, ty, pos, aft, g⟩).run P w' = .ok (.value v) w') ∧ K v w Qm := by
  obtain ⟨a, v, hx, hv, hk⟩ := h
  refine ⟨v, ⟨a, hx, hv⟩, fun w' hw => ?_, hk⟩
  obtain ⟨a', hx', hv'⟩ := hw
  rw [hx] at hx'; cases hx'
  simp [execOp, hx, Instr.loadAt, Instr.sureAddr, loadVar, run_isAgg_sc ht, hv']
theorem R_ldn {t : TypeId} {n : Nat} {x : Operand} (ht : isAg P t n = true) (h : ldn n (opv N ρ x) K w Qm) :
    ∃ v, Kldn n (opv N ρ x) v w ∧ (∀ w', Kldn n (opv N ρ x) v w' → (execOp (opv N ρ) ⟨some d, .load t x, ty, pos, aft, g⟩).run P w' = .ok (.value v) w') ∧ K v w Qm := by
  obtain ⟨a, cs, hx, hn, hv, hk⟩ := h
  refine ⟨.agg cs, ⟨a, cs, hx, hn, hv, rfl⟩, fun w' hw => ?_, hk⟩
  obtain ⟨a', cs', hx', hn', hv', e⟩ := hw
  rw [hx] at hx'; cases hx'; cases e
  have := run_loadCellsFrom_rds (P := P) hv' n 0 #[] (by omega)
  simp [execOp, hx, Instr.loadAt, Instr.sureAddr, loadVar, run_isAgg_ag ht, run_sizeOf_ag ht, loadCells, this]
/-- Whatever operation yields a value and leaves the world alone, told by its own run, in each world of which F holds. -/
def Ksm (P : Program) (s : Sem Value) (v : Value) (w : World) : Prop := s.run P w = .ok v w
def smr (P : Program) (s : Sem Value) (K : Value → M) : M := fun w Q => ∃ v, s.run P w = .ok v w ∧ K v w Q
theorem R_sm {op : Op} {s : Sem Value} (he : execOp (opv N ρ) ⟨some d, op, ty, pos, aft, g⟩ = (do pure (.value (← s)))) (h : smr P s K w Qm) :
    ∃ v, Ksm P s v w ∧ (∀ w', Ksm P s v w' → (execOp (opv N ρ) ⟨some d, op, ty, pos, aft, g⟩).run P w' = .ok (.value v) w') ∧ K v w Qm := by
  obtain ⟨v, hr, hk⟩ := h
  exact ⟨v, hr, fun w' hw => by rw [he]; simp [show s.run P w' = .ok v w' from hw], hk⟩
theorem P_smr {op : Op} {s : Sem Value} {next : Act → World → Prop} {Qx : Exit → Act → World → Prop} (he : execOp (opv N ρ) ⟨some d, op, ty, pos, aft, g⟩ = (do pure (.value (← s)))) (h : smr P s K w Qm) (c : ∀ v w', K v w' Qm → next (act N (upd ρ d v)) w') : Oper.wp P ⟨some d, op, ty, pos, aft, g⟩ (act N ρ) w next Qx := by
  obtain ⟨v, hr, hk⟩ := h
  exact wp_run (by rw [he]; simp [hr]) (c _ _ hk)
end
end Sh
end Go.Proofs.Ytlmiimojgledpaa
