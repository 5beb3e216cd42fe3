/- More operations: for each the machine's own does what the predicate transformer says. -/
import Derived.Test.YtlmiimojgledpaaSh3
import Derived.Laws.Strings
set_option linter.unusedSimpArgs false
set_option linter.unusedVariables false
namespace Go.Proofs.Ytlmiimojgledpaa
namespace Sh
section
variable {P : Program} {N : Nat} {ρ : Nat → Value} {w : World} {d : Nat} {ty : TypeId} {pos : String} {aft : Array Edge} {g : Option (Nat × Bool)}
  {next : Act → World → Prop} {Qx : Exit → Act → World → Prop} {Qm : Value → World → Prop} {K : Value → M} {K0 : M}

theorem P_bits {k : IntKind} {op : BinOp} {t t2 : TypeId} {x y : Operand} (ho : (match op with | .and | .or | .xor | .andNot => true | _ => false) = true) (h : bws op k (opv N ρ x) (opv N ρ y) K w Qm) (c : ∀ v w', K v w' Qm → next (act N (upd ρ d v)) w') : Oper.wp P ⟨some d, .binOp op t x y t2, ty, pos, aft, g⟩ (act N ρ) w next Qx := by
  obtain ⟨a, b, v, hx, hy, hv, hk⟩ := h
  refine wp_run ?_ (c _ _ hk)
  have := hv P w
  cases op <;> simp at ho <;> simp [execOp, hx, hy, eqGuard, binOp, this]
theorem P_shl {k j : IntKind} {t t2 : TypeId} {x y : Operand} (h : shl k j (opv N ρ x) (opv N ρ y) K w Qm) (c : ∀ v w', K v w' Qm → next (act N (upd ρ d v)) w') : Oper.wp P ⟨some d, .binOp .shl t x y t2, ty, pos, aft, g⟩ (act N ρ) w next Qx := by
  obtain ⟨a, b, hx, hy, hb, hk⟩ := h
  refine wp_run ?_ (c _ _ hk)
  simp [execOp, hx, hy, eqGuard, binOp, Op.shift, show ¬ b < 0 from by omega]
theorem P_shr {k j : IntKind} {t t2 : TypeId} {x y : Operand} (h : shr k j (opv N ρ x) (opv N ρ y) K w Qm) (c : ∀ v w', K v w' Qm → next (act N (upd ρ d v)) w') : Oper.wp P ⟨some d, .binOp .shr t x y t2, ty, pos, aft, g⟩ (act N ρ) w next Qx := by
  obtain ⟨a, b, hx, hy, hb, hk⟩ := h
  refine wp_run ?_ (c _ _ hk)
  simp [execOp, hx, hy, eqGuard, binOp, Op.shift, show ¬ b < 0 from by omega]
theorem toList_eq (a b : ByteArray) : (a.toList == b.toList) = decide (a = b) := by
  have : a.toList = b.toList ↔ a = b := by
    constructor
    · intro h
      simp only [ByteArray.toList_eq] at h
      cases a; cases b; simp_all
    · intro h; rw [h]
  by_cases h : a = b
  · simp [h]
  · simp only [h, decide_false]; rw [beq_eq_false_iff_ne]; exact fun e => h (this.1 e)
theorem P_cat {t t2 : TypeId} {x y : Operand} (h : cat (opv N ρ x) (opv N ρ y) K w Qm) (c : ∀ v w', K v w' Qm → next (act N (upd ρ d v)) w') : Oper.wp P ⟨some d, .binOp .add t x y t2, ty, pos, aft, g⟩ (act N ρ) w next Qx := by
  obtain ⟨a, b, hx, hy, hn, hk⟩ := h
  refine wp_run ?_ (c _ _ hk)
  have : ¬ (((a.size + b.size : Nat) : Int) > IntKind.i64.max) := by
    have e : IntKind.i64.max = 9223372036854775807 := by decide
    rw [e]; omega
  simp only [execOp, hx, hy, eqGuard, binOp, Op.stringOp, if_neg this]
  simp
theorem P_eqs {t t2 : TypeId} {x y : Operand} (h : eqs (opv N ρ x) (opv N ρ y) K w Qm) (c : ∀ v w', K v w' Qm → next (act N (upd ρ d v)) w') : Oper.wp P ⟨some d, .binOp .eql t x y t2, ty, pos, aft, g⟩ (act N ρ) w next Qx := by
  obtain ⟨a, b, hx, hy, hk⟩ := h
  refine wp_run ?_ (c _ _ hk)
  simp only [execOp, hx, hy, eqGuard, binOp, Op.stringOp, toList_eq]
  simp
theorem P_nes {t t2 : TypeId} {x y : Operand} (h : nes (opv N ρ x) (opv N ρ y) K w Qm) (c : ∀ v w', K v w' Qm → next (act N (upd ρ d v)) w') : Oper.wp P ⟨some d, .binOp .neq t x y t2, ty, pos, aft, g⟩ (act N ρ) w next Qx := by
  obtain ⟨a, b, hx, hy, hk⟩ := h
  refine wp_run ?_ (c _ _ hk)
  simp only [execOp, hx, hy, eqGuard, binOp, Op.stringOp, toList_eq]
  simp
theorem P_lts {t t2 : TypeId} {x y : Operand} (h : lts (opv N ρ x) (opv N ρ y) K w Qm) (c : ∀ v w', K v w' Qm → next (act N (upd ρ d v)) w') : Oper.wp P ⟨some d, .binOp .lss t x y t2, ty, pos, aft, g⟩ (act N ρ) w next Qx := by
  obtain ⟨a, b, hx, hy, hk⟩ := h
  refine wp_run ?_ (c _ _ hk)
  simp only [execOp, hx, hy, eqGuard, binOp, Op.stringOp]
  simp
theorem P_gts {t t2 : TypeId} {x y : Operand} (h : gts (opv N ρ x) (opv N ρ y) K w Qm) (c : ∀ v w', K v w' Qm → next (act N (upd ρ d v)) w') : Oper.wp P ⟨some d, .binOp .gtr t x y t2, ty, pos, aft, g⟩ (act N ρ) w next Qx := by
  obtain ⟨a, b, hx, hy, hk⟩ := h
  refine wp_run ?_ (c _ _ hk)
  simp only [execOp, hx, hy, eqGuard, binOp, Op.stringOp]
  simp
theorem equalIn_bool {t : TypeId} (hu : P.underlying t = some .bool) (n : Nat) (a b : Bool) : (Op.equalIn (n + 1) t (.bool a) (.bool b)).run P w = .ok (a == b) w := by
  simp [Op.equalIn, underlying, hu]
theorem P_eqb {t t2 : TypeId} {x y : Operand} (ht : isBool P t = true) (h : eqb (opv N ρ x) (opv N ρ y) K w Qm) (c : ∀ v w', K v w' Qm → next (act N (upd ρ d v)) w') : Oper.wp P ⟨some d, .binOp .eql t x y t2, ty, pos, aft, g⟩ (act N ρ) w next Qx := by
  obtain ⟨a, b, hx, hy, hk⟩ := h
  refine wp_run ?_ (c _ _ hk)
  unfold isBool at ht
  cases hu : P.underlying t with
  | none => simp [hu] at ht
  | some u =>
    cases u <;> simp [hu] at ht
    have := equalIn_bool (w := w) hu 9999 a b
    have e : Op.equal t (.bool a) (.bool b) = Op.equalIn (9999 + 1) t (.bool a) (.bool b) := rfl
    simp [execOp, hx, hy, eqGuard, binOp, e, this]
theorem P_neb {t t2 : TypeId} {x y : Operand} (ht : isBool P t = true) (h : neb (opv N ρ x) (opv N ρ y) K w Qm) (c : ∀ v w', K v w' Qm → next (act N (upd ρ d v)) w') : Oper.wp P ⟨some d, .binOp .neq t x y t2, ty, pos, aft, g⟩ (act N ρ) w next Qx := by
  obtain ⟨a, b, hx, hy, hk⟩ := h
  refine wp_run ?_ (c _ _ hk)
  unfold isBool at ht
  cases hu : P.underlying t with
  | none => simp [hu] at ht
  | some u =>
    cases u <;> simp [hu] at ht
    have := equalIn_bool (w := w) hu 9999 a b
    have e : Op.equal t (.bool a) (.bool b) = Op.equalIn (9999 + 1) t (.bool a) (.bool b) := rfl
    simp [execOp, hx, hy, eqGuard, binOp, e, this]
theorem P_nt {t : TypeId} {x : Operand} (h : nt (opv N ρ x) K w Qm) (c : ∀ v w', K v w' Qm → next (act N (upd ρ d v)) w') : Oper.wp P ⟨some d, .unOp .not t x, ty, pos, aft, g⟩ (act N ρ) w next Qx := by
  obtain ⟨a, hx, hk⟩ := h
  exact wp_run (by simp [execOp, hx, Op.unary]) (c _ _ hk)
theorem P_pk {x y z : Operand} (h : pk (opv N ρ x) (opv N ρ y) (opv N ρ z) K w Qm) (c : ∀ v w', K v w' Qm → next (act N (upd ρ d v)) w') : Oper.wp P ⟨some d, .pick x y z, ty, pos, aft, g⟩ (act N ρ) w next Qx := by
  obtain ⟨b, hx, hk⟩ := h
  refine wp_run ?_ (c _ _ hk)
  cases b <;> simp [execOp, hx, asBool]
theorem P_cv {k : IntKind} {s t : TypeId} {x : Operand} (hs : (match P.underlying s with | some (.int _) => true | _ => false) = true) (ht : isInt P t k = true) (h : cv k (opv N ρ x) K w Qm) (c : ∀ v w', K v w' Qm → next (act N (upd ρ d v)) w') : Oper.wp P ⟨some d, .convert s t x, ty, pos, aft, g⟩ (act N ρ) w next Qx := by
  obtain ⟨j, a, hx, hk⟩ := h
  refine wp_run ?_ (c _ _ hk)
  unfold isInt at ht
  cases hu : P.underlying t with
  | none => simp [hu] at ht
  | some u =>
    cases u <;> simp [hu] at ht
    cases hv : P.underlying s with
    | none => simp [hv] at hs
    | some u' =>
      cases u' <;> simp [hv] at hs
      subst ht
      simp [execOp, hx, convert, underlying, hu, hv, Conv.intToInt]
theorem P_al {t : TypeId} {z : Value} {cs : Array Value} (hz : zeroIs P t z) (hc : z.cells = cs) (h : al t cs K w Qm) (c : ∀ v w', K v w' Qm → next (act N (upd ρ d v)) w') : Oper.wp P ⟨some d, .alloc t, ty, pos, aft, g⟩ (act N ρ) w next Qx := by
  refine wp_run ?_ (c _ _ h)
  unfold zeroIs at hz
  cases hu : P.info? t with
  | none => simp [hu] at hz
  | some i =>
    simp [hu] at hz
    simp [execOp, Instr.alloc, zeroValue, typeInfo, hu, hz, newVar, newRow, hc, psh]
theorem P_bx {t : TypeId} {x : Operand} (h : bx t (opv N ρ x) K w Qm) (c : ∀ v w', K v w' Qm → next (act N (upd ρ d v)) w') : Oper.wp P ⟨some d, .box t x, ty, pos, aft, g⟩ (act N ρ) w next Qx := by
  refine wp_run ?_ (c _ _ h)
  simp [execOp, Instr.box, newVar, newRow, psh]
theorem P_ex {i : Nat} {x : Operand} (h : ex i (opv N ρ x) K w Qm) (c : ∀ v w', K v w' Qm → next (act N (upd ρ d v)) w') : Oper.wp P ⟨some d, .extract x i, ty, pos, aft, g⟩ (act N ρ) w next Qx := by
  obtain ⟨vs, v, hx, hv, hk⟩ := h
  exact wp_run (by simp [execOp, hx, Instr.extract, hv]) (c _ _ hk)
theorem P_lnl {t : TypeId} {x : Operand} (ht : isSl P t = true) (h : lnl (opv N ρ x) K w Qm) (c : ∀ v w', K v w' Qm → next (act N (upd ρ d v)) w') : Oper.wp P ⟨some d, .call ⟨.builtin .len, #[x], #[t]⟩, ty, pos, aft, g⟩ (act N ρ) w next Qx := by
  obtain ⟨a, l, cp, hx, hk⟩ := h
  refine wp_run ?_ (c _ _ hk)
  unfold isSl at ht
  cases hu : P.underlying t with
  | none => simp [hu] at ht
  | some u =>
    cases u <;> simp [hu] at ht
    simp [execOp, hx, resolve, invoke, builtin, Builtin.len_, underlying, hu, goInt]
theorem P_lns {t : TypeId} {x : Operand} (ht : isStr P t = true) (h : lns (opv N ρ x) K w Qm) (c : ∀ v w', K v w' Qm → next (act N (upd ρ d v)) w') : Oper.wp P ⟨some d, .call ⟨.builtin .len, #[x], #[t]⟩, ty, pos, aft, g⟩ (act N ρ) w next Qx := by
  obtain ⟨s, hx, hk⟩ := h
  refine wp_run ?_ (c _ _ hk)
  unfold isStr at ht
  cases hu : P.underlying t with
  | none => simp [hu] at ht
  | some u =>
    cases u <;> simp [hu] at ht
    simp [execOp, hx, resolve, invoke, builtin, Builtin.len_, underlying, hu, goInt]
theorem P_mnm {t : TypeId} {x y : Operand} {ts : Array TypeId} (h : mnm (opv N ρ x) (opv N ρ y) K w Qm) (c : ∀ v w', K v w' Qm → next (act N (upd ρ d v)) w') : Oper.wp P ⟨some d, .call ⟨.builtin .min, #[x, y], ts⟩, ty, pos, aft, g⟩ (act N ρ) w next Qx := by
  obtain ⟨k, a, b, hx, hy, hk⟩ := h
  refine wp_run ?_ (c _ _ hk)
  simp [execOp, hx, hy, resolve, invoke, builtin, Builtin.min_, Builtin.min2]
theorem P_mxm {t : TypeId} {x y : Operand} {ts : Array TypeId} (h : mxm (opv N ρ x) (opv N ρ y) K w Qm) (c : ∀ v w', K v w' Qm → next (act N (upd ρ d v)) w') : Oper.wp P ⟨some d, .call ⟨.builtin .max, #[x, y], ts⟩, ty, pos, aft, g⟩ (act N ρ) w next Qx := by
  obtain ⟨k, a, b, hx, hy, hk⟩ := h
  refine wp_run ?_ (c _ _ hk)
  simp [execOp, hx, hy, resolve, invoke, builtin, Builtin.max_, Builtin.max2]
theorem P_ia {t : TypeId} {n : Nat} {x y : Operand} (ht : slE P t n = true) (h : ia n (opv N ρ x) (opv N ρ y) K w Qm) (c : ∀ v w', K v w' Qm → next (act N (upd ρ d v)) w') : Oper.wp P ⟨some d, .indexAddr t x y, ty, pos, aft, g⟩ (act N ρ) w next Qx := by
  obtain ⟨a, l, cp, k, j, hx, hy, h0, hl, hk⟩ := h
  refine wp_run ?_ (c _ _ hk)
  unfold slE at ht
  cases hu : P.underlying t with
  | none => simp [hu] at ht
  | some u =>
    cases u <;> simp [hu] at ht
    obtain ⟨i, hi, hs⟩ := ht
    simp [execOp, hx, hy, Instr.indexAt, asIntOf, underlying, hu, sizeOf, typeInfo, hi, hs, h0, hl]
theorem P_iaa {t : TypeId} {len n : Nat} {x y : Operand} (ht : arE P t len n = true) (h : iaa len n (opv N ρ x) (opv N ρ y) K w Qm) (c : ∀ v w', K v w' Qm → next (act N (upd ρ d v)) w') : Oper.wp P ⟨some d, .indexAddr t x y, ty, pos, aft, g⟩ (act N ρ) w next Qx := by
  obtain ⟨a, k, j, hx, hy, h0, hl, hk⟩ := h
  refine wp_run ?_ (c _ _ hk)
  unfold arE at ht
  cases hu : P.underlying t with
  | none => simp [hu] at ht
  | some u =>
    cases u <;> simp [hu] at ht
    obtain ⟨h1, i, hi, hs⟩ := ht
    subst h1
    simp [execOp, hx, hy, Instr.indexAt, Instr.sureAddr, asIntOf, underlying, hu, sizeOf, typeInfo, hi, hs, h0, hl]
theorem P_ixs {t : TypeId} {x y : Operand} (ht : isStr P t = true) (h : ixs (opv N ρ x) (opv N ρ y) K w Qm) (c : ∀ v w', K v w' Qm → next (act N (upd ρ d v)) w') : Oper.wp P ⟨some d, .index t x y, ty, pos, aft, g⟩ (act N ρ) w next Qx := by
  obtain ⟨s, k, j, b, hx, hy, h0, hb, hk⟩ := h
  refine wp_run ?_ (c _ _ hk)
  unfold isStr at ht
  cases hu : P.underlying t with
  | none => simp [hu] at ht
  | some u =>
    cases u <;> simp [hu] at ht
    simp [execOp, hx, hy, Instr.index, asIntOf, underlying, hu, h0, hb]
theorem run_bound {o : Option Value} {dflt m l : Nat} {v : Value} {code : BoundsCode} (h : bnd o dflt m l) (ho : o = some v) : (Instr.sliceBound v m code).run P w = .ok l w := by
  subst ho
  obtain ⟨k, j, rfl, h0, h1, rfl⟩ := h
  simp [Instr.sliceBound, asIntOf, h0, h1]
theorem P_sls {t : TypeId} {x : Operand} {lo hi : Option Operand} (ht : isStr P t = true) (h : sls (opv N ρ x) (lo.map (opv N ρ)) (hi.map (opv N ρ)) K w Qm) (c : ∀ v w', K v w' Qm → next (act N (upd ρ d v)) w') : Oper.wp P ⟨some d, .slice t x lo hi none, ty, pos, aft, g⟩ (act N ρ) w next Qx := by
  obtain ⟨s, l, hh, hx, h1, h2, hk⟩ := h
  refine wp_run ?_ (c _ _ hk)
  unfold isStr at ht
  cases hu : P.underlying t with
  | none => simp [hu] at ht
  | some u =>
    cases u <;> simp [hu] at ht
    cases lo with
    | none =>
      simp only [Option.map_none] at h2
      have h2' : l = 0 := h2
      subst h2'
      cases hi with
      | none => have h1' : hh = s.size := h1; subst h1'; simp [execOp, hx, Instr.sliceAt, Instr.slice, underlying, hu, Instr.sliceBounds]
      | some y => have := run_bound (P := P) (w := w) (code := .sliceAlen) h1 rfl; simp [execOp, hx, Instr.sliceAt, Instr.slice, underlying, hu, Instr.sliceBounds, this]
    | some z =>
      have h2' := run_bound (P := P) (w := w) (code := .sliceB) h2 rfl
      cases hi with
      | none => have h1' : hh = s.size := h1; subst h1'; simp [execOp, hx, Instr.sliceAt, Instr.slice, underlying, hu, Instr.sliceBounds, h2']
      | some y => have := run_bound (P := P) (w := w) (code := .sliceAlen) h1 rfl; simp [execOp, hx, Instr.sliceAt, Instr.slice, underlying, hu, Instr.sliceBounds, this, h2']
theorem P_sll {t : TypeId} {n : Nat} {x : Operand} {lo hi : Option Operand} (ht : slE P t n = true) (h : sll n (opv N ρ x) (lo.map (opv N ρ)) (hi.map (opv N ρ)) K w Qm) (c : ∀ v w', K v w' Qm → next (act N (upd ρ d v)) w') : Oper.wp P ⟨some d, .slice t x lo hi none, ty, pos, aft, g⟩ (act N ρ) w next Qx := by
  obtain ⟨a, len, cap, l, hh, hx, h1, h2, hk⟩ := h
  refine wp_run ?_ (c _ _ hk)
  unfold slE at ht
  cases hu : P.underlying t with
  | none => simp [hu] at ht
  | some u =>
    cases u <;> simp [hu] at ht
    obtain ⟨i, hi', hs⟩ := ht
    cases lo with
    | none =>
      have h2' : l = 0 := h2
      subst h2'
      cases hi with
      | none => have h1' : hh = len := h1; subst h1'; simp [execOp, hx, Instr.sliceAt, Instr.slice, underlying, hu, Instr.sliceBounds, sizeOf, typeInfo, hi', hs]
      | some y => have := run_bound (P := P) (w := w) (code := .sliceAcap) h1 rfl; simp [execOp, hx, Instr.sliceAt, Instr.slice, underlying, hu, Instr.sliceBounds, this, sizeOf, typeInfo, hi', hs]
    | some z =>
      have h2' := run_bound (P := P) (w := w) (code := .sliceB) h2 rfl
      cases hi with
      | none => have h1' : hh = len := h1; subst h1'; simp [execOp, hx, Instr.sliceAt, Instr.slice, underlying, hu, Instr.sliceBounds, h2', sizeOf, typeInfo, hi', hs]
      | some y => have := run_bound (P := P) (w := w) (code := .sliceAcap) h1 rfl; simp [execOp, hx, Instr.sliceAt, Instr.slice, underlying, hu, Instr.sliceBounds, this, h2', sizeOf, typeInfo, hi', hs]
theorem P_sla {t : TypeId} {len n : Nat} {x : Operand} {lo hi : Option Operand} (ht : arE P t len n = true) (h : sla len n (opv N ρ x) (lo.map (opv N ρ)) (hi.map (opv N ρ)) K w Qm) (c : ∀ v w', K v w' Qm → next (act N (upd ρ d v)) w') : Oper.wp P ⟨some d, .slice t x lo hi none, ty, pos, aft, g⟩ (act N ρ) w next Qx := by
  obtain ⟨a, l, hh, hx, h1, h2, hk⟩ := h
  refine wp_run ?_ (c _ _ hk)
  unfold arE at ht
  cases hu : P.underlying t with
  | none => simp [hu] at ht
  | some u =>
    cases u <;> simp [hu] at ht
    obtain ⟨h3, i, hi', hs⟩ := ht
    subst h3
    cases lo with
    | none =>
      have h2' : l = 0 := h2
      subst h2'
      cases hi with
      | none => have h1' := h1; simp only [Option.map_none, bnd] at h1'; subst h1'; simp [execOp, hx, Instr.sliceAt, Instr.sureAddr, underlying, hu, Instr.sliceBounds, sizeOf, typeInfo, hi', hs]
      | some y => have := run_bound (P := P) (w := w) (code := .sliceAlen) h1 rfl; simp [execOp, hx, Instr.sliceAt, Instr.sureAddr, underlying, hu, Instr.sliceBounds, this, sizeOf, typeInfo, hi', hs]
    | some z =>
      have h2' := run_bound (P := P) (w := w) (code := .sliceB) h2 rfl
      cases hi with
      | none => have h1' := h1; simp only [Option.map_none, bnd] at h1'; subst h1'; simp [execOp, hx, Instr.sliceAt, Instr.sureAddr, underlying, hu, Instr.sliceBounds, h2', sizeOf, typeInfo, hi', hs]
      | some y => have := run_bound (P := P) (w := w) (code := .sliceAlen) h1 rfl; simp [execOp, hx, Instr.sliceAt, Instr.sureAddr, underlying, hu, Instr.sliceBounds, this, h2', sizeOf, typeInfo, hi', hs]
theorem P_mif {t : TypeId} {x : Operand} (ht : isConc P t = true) (h : mif t (opv N ρ x) K w Qm) (c : ∀ v w', K v w' Qm → next (act N (upd ρ d v)) w') : Oper.wp P ⟨some d, .makeInterface t x, ty, pos, aft, g⟩ (act N ρ) w next Qx := by
  refine wp_run ?_ (c _ _ h)
  unfold isConc at ht
  cases hu : P.underlying t with
  | none => simp [hu] at ht
  | some u => cases u <;> simp [hu] at ht <;> simp [execOp, Instr.makeInterface, underlying, hu]
theorem P_mf {fn : Fn} {first cap : Array Operand} (h : idv (.func fn (first.map (opv N ρ)) (cap.map (opv N ρ))) K w Qm) (c : ∀ v w', K v w' Qm → next (act N (upd ρ d v)) w') : Oper.wp P ⟨some d, .makeFunc fn first cap, ty, pos, aft, g⟩ (act N ρ) w next Qx :=
  wp_run (by simp [execOp, Instr.makeFunc]) (c _ _ h)
theorem P_mm {t : TypeId} (h : mm K w Qm) (c : ∀ v w', K v w' Qm → next (act N (upd ρ d v)) w') : Oper.wp P ⟨some d, .makeMap t none, ty, pos, aft, g⟩ (act N ρ) w next Qx :=
  wp_run (by simp [execOp, Instr.makeMap, psh]) (c _ _ h)
theorem P_asrt {s t : TypeId} {x : Operand} (ht : isConc P t = true) (h : asrt t (opv N ρ x) K w Qm) (c : ∀ v w', K v w' Qm → next (act N (upd ρ d v)) w') : Oper.wp P ⟨some d, .typeAssert x s t false, ty, pos, aft, g⟩ (act N ρ) w next Qx := by
  obtain ⟨v, hx, hk⟩ := h
  refine wp_run ?_ (c _ _ hk)
  unfold isConc at ht
  cases hu : P.underlying t with
  | none => simp [hu] at ht
  | some u => cases u <;> simp [hu] at ht <;> simp [execOp, hx, Instr.typeAssert, underlying, hu]
/-- Whatever operation yields a value: by its own run. -/
theorem P_sm {op : Op} {s : Sem Value} (he : execOp (opv N ρ) ⟨some d, op, ty, pos, aft, g⟩ = (do pure (.value (← s)))) (h : sm P s K w Qm) (c : ∀ v w', K v w' Qm → next (act N (upd ρ d v)) w') : Oper.wp P ⟨some d, op, ty, pos, aft, g⟩ (act N ρ) w next Qx := by
  obtain ⟨v, w', hr, hk⟩ := h
  exact wp_run (by rw [he]; simp [hr]) (c _ _ hk)
theorem P_smn {op : Op} {s : Sem Value} (he : execOp (opv N ρ) ⟨none, op, ty, pos, aft, g⟩ = (do pure (.value (← s)))) (h : sm P s (fun _ => K0) w Qm) (c : ∀ w', K0 w' Qm → next (act N ρ) w') : Oper.wp P ⟨none, op, ty, pos, aft, g⟩ (act N ρ) w next Qx := by
  obtain ⟨v, w', hr, hk⟩ := h
  exact wp_runv (v := v) (by rw [he]; simp [hr]) (c _ hk)
theorem P_smu {op : Op} {s : Sem Unit} (he : execOp (opv N ρ) ⟨none, op, ty, pos, aft, g⟩ = (do s; pure .skip)) (h : smu P s K0 w Qm) (c : ∀ w', K0 w' Qm → next (act N ρ) w') : Oper.wp P ⟨none, op, ty, pos, aft, g⟩ (act N ρ) w next Qx := by
  obtain ⟨w', hr, hk⟩ := h
  exact wp_run0 (by rw [he]; simp [hr]) (c _ hk)
/-! calls -/
theorem P_cc {fn : Func} {b : Code} {f : FuncId} {xs : Array Operand} {ts : Array TypeId} (hf : P.funcs[f]? = some fn) (hb : fn.body = some b) (hn : (fn.name == "runtime.NumGoroutine") = false)
    (h : cc P f (xs.map (opv N ρ)) K w Qm) (c : ∀ v w', K v w' Qm → next (act N (upd ρ d v)) w') : Oper.wp P ⟨some d, .call ⟨.value (.func f), xs, ts⟩, ty, pos, aft, g⟩ (act N ρ) w next Qx := by
  have hr : (execOp (act N ρ).eval ⟨some d, .call ⟨.value (.func f), xs, ts⟩, ty, pos, aft, g⟩).run P w = .ok (.enter f (xs.map (opv N ρ))) w := by
    have hn' : ¬ fn.name = "runtime.NumGoroutine" := by simpa using hn
    simp [eval_act, execOp, resolve, opv, Deferred.ofValue, invoke, callFunc, hf, hb, hn']
  simp only [Oper.wp, hr, Oper.upon]
  exact Calls.mono h fun e w' he => by
    cases e with
    | returned v => simp only [put_act]; exact c _ _ he
    | panicked ch => exact he.elim
    | outgrown => exact he.elim
theorem P_ccn {fn : Func} {b : Code} {f : FuncId} {xs : Array Operand} {ts : Array TypeId} (hf : P.funcs[f]? = some fn) (hb : fn.body = some b) (hn : (fn.name == "runtime.NumGoroutine") = false)
    (h : cc P f (xs.map (opv N ρ)) (fun _ => K0) w Qm) (c : ∀ w', K0 w' Qm → next (act N ρ) w') : Oper.wp P ⟨none, .call ⟨.value (.func f), xs, ts⟩, ty, pos, aft, g⟩ (act N ρ) w next Qx := by
  have hr : (execOp (act N ρ).eval ⟨none, .call ⟨.value (.func f), xs, ts⟩, ty, pos, aft, g⟩).run P w = .ok (.enter f (xs.map (opv N ρ))) w := by
    have hn' : ¬ fn.name = "runtime.NumGoroutine" := by simpa using hn
    simp [eval_act, execOp, resolve, opv, Deferred.ofValue, invoke, callFunc, hf, hb, hn']
  simp only [Oper.wp, hr, Oper.upon]
  exact Calls.mono h fun e w' he => by
    cases e with
    | returned v => exact c _ he
    | panicked ch => exact he.elim
    | outgrown => exact he.elim
theorem P_cl {fn : Func} {b : Code} {f : FuncId} {F : M} {xs : Array Operand} {ts : Array TypeId} (hf : P.funcs[f]? = some fn) (hb : fn.body = some b) (hn : (fn.name == "runtime.NumGoroutine") = false)
    (hs : ∀ w Q, F w Q → Calls P f (xs.map (opv N ρ)) w (Rt Q))
    (h : cl F K w Qm) (c : ∀ v w', K v w' Qm → next (act N (upd ρ d v)) w') : Oper.wp P ⟨some d, .call ⟨.value (.func f), xs, ts⟩, ty, pos, aft, g⟩ (act N ρ) w next Qx :=
  P_cc hf hb hn (hs _ _ h) c
theorem P_cln {fn : Func} {b : Code} {f : FuncId} {F : M} {xs : Array Operand} {ts : Array TypeId} (hf : P.funcs[f]? = some fn) (hb : fn.body = some b) (hn : (fn.name == "runtime.NumGoroutine") = false)
    (hs : ∀ w Q, F w Q → Calls P f (xs.map (opv N ρ)) w (Rt Q))
    (h : cl F (fun _ => K0) w Qm) (c : ∀ w', K0 w' Qm → next (act N ρ) w') : Oper.wp P ⟨none, .call ⟨.value (.func f), xs, ts⟩, ty, pos, aft, g⟩ (act N ρ) w next Qx :=
  P_ccn hf hb hn (hs _ _ h) c
theorem P_cf {x : Operand} {xs : Array Operand} {ts : Array TypeId}
    (h : cf P (opv N ρ x) (xs.map (opv N ρ)) K w Qm) (c : ∀ v w', K v w' Qm → next (act N (upd ρ d v)) w') : Oper.wp P ⟨some d, .call ⟨.value x, xs, ts⟩, ty, pos, aft, g⟩ (act N ρ) w next Qx := by
  obtain ⟨f, z, cap, hx, hr, hk⟩ := h
  have hr : (execOp (act N ρ).eval ⟨some d, .call ⟨.value x, xs, ts⟩, ty, pos, aft, g⟩).run P w = .ok (.enter f (z ++ xs.map (opv N ρ) ++ cap)) w := by
    simp only [eval_act, execOp, resolve, hx, Deferred.ofValue, invoke, pure_bind, hr]
  simp only [Oper.wp, hr, Oper.upon]
  exact Calls.mono hk fun e w' he => by
    cases e with
    | returned v => simp only [put_act]; exact c _ _ he
    | panicked ch => exact he.elim
    | outgrown => exact he.elim
theorem P_ci {x : Operand} {m : String} {xs : Array Operand} {ts : Array TypeId}
    (h : ci P (opv N ρ x) m (xs.map (opv N ρ)) K w Qm) (c : ∀ v w', K v w' Qm → next (act N (upd ρ d v)) w') : Oper.wp P ⟨some d, .call ⟨.invoke x m, xs, ts⟩, ty, pos, aft, g⟩ (act N ρ) w next Qx := by
  obtain ⟨f, as, w1, hr, hk⟩ := h
  have hr : (execOp (act N ρ).eval ⟨some d, .call ⟨.invoke x m, xs, ts⟩, ty, pos, aft, g⟩).run P w = .ok (.enter f as) w1 := by
    have e : (#[opv N ρ x] ++ xs.map (opv N ρ)).extract 1 (#[opv N ρ x] ++ xs.map (opv N ρ)).size = xs.map (opv N ρ) := by
      apply Array.ext'
      simp [List.extract_eq_take_drop]
      rw [List.take_of_length_le (by simp)]
    have e0 : (#[opv N ρ x] ++ xs.map (opv N ρ))[0]? = some (opv N ρ x) := by
      rw [Array.getElem?_append_left (by exact Nat.zero_lt_one)]; rfl
    simp only [eval_act, execOp, resolve]
    rw [pure_bind]
    simp only [invoke, e0, e]
    rw [hr]
  simp only [Oper.wp, hr, Oper.upon]
  exact Calls.mono hk fun e w' he => by
    cases e with
    | returned v => simp only [put_act]; exact c _ _ he
    | panicked ch => exact he.elim
    | outgrown => exact he.elim
theorem P_cin {x : Operand} {m : String} {xs : Array Operand} {ts : Array TypeId}
    (h : ci P (opv N ρ x) m (xs.map (opv N ρ)) (fun _ => K0) w Qm) (c : ∀ w', K0 w' Qm → next (act N ρ) w') : Oper.wp P ⟨none, .call ⟨.invoke x m, xs, ts⟩, ty, pos, aft, g⟩ (act N ρ) w next Qx := by
  obtain ⟨f, as, w1, hr, hk⟩ := h
  have hr : (execOp (act N ρ).eval ⟨none, .call ⟨.invoke x m, xs, ts⟩, ty, pos, aft, g⟩).run P w = .ok (.enter f as) w1 := by
    have e : (#[opv N ρ x] ++ xs.map (opv N ρ)).extract 1 (#[opv N ρ x] ++ xs.map (opv N ρ)).size = xs.map (opv N ρ) := by
      apply Array.ext'
      simp [List.extract_eq_take_drop]
      rw [List.take_of_length_le (by simp)]
    have e0 : (#[opv N ρ x] ++ xs.map (opv N ρ))[0]? = some (opv N ρ x) := by
      rw [Array.getElem?_append_left (by exact Nat.zero_lt_one)]; rfl
    simp only [eval_act, execOp, resolve]
    rw [pure_bind]
    simp only [invoke, e0, e]
    rw [hr]
  simp only [Oper.wp, hr, Oper.upon]
  exact Calls.mono hk fun e w' he => by
    cases e with
    | returned v => exact c _ he
    | panicked ch => exact he.elim
    | outgrown => exact he.elim
/-! code -/
theorem C_cnd {x : Operand} {A B : Code} {Am Bm : M} (h : cnd (opv N ρ x) Am Bm w Qm) (ha : Am w Qm → A.wp P Qx (act N ρ) w) (hb : Bm w Qm → B.wp P Qx (act N ρ) w) : (Code.cond x A B).wp P Qx (act N ρ) w := by
  obtain ⟨b, hx, hk⟩ := h
  cases b with
  | true => exact wp_cond_true (by rw [eval_act]; exact hx) (ha hk)
  | false => exact wp_cond_false (by rw [eval_act]; exact hx) (hb hk)
theorem C_loop {c : Code} (I : Nat → Act → World → Prop) {a : Act} {n : Nat} (h0 : I n a w)
    (round : ∀ n a w, I n a w → c.wp P (Exit.then (fun a' w' => ∃ m, m < n ∧ I m a' w') Qx) a w) : (Code.loop c).wp P Qx a w := by
  intro b k cs
  have key : ∀ n a w, I n a w → ∃ e a' w', Qx e a' w' ∧ Arrives P (lone (b.at a (.code c :: .inLoop c :: k)) cs w) b k cs e a' w' := by
    intro n
    induction n using Nat.strongRecOn with
    | _ n ih =>
      intro a w hI
      obtain ⟨e, a₁, w₁, hq, harr⟩ := round n a w hI b (.inLoop c :: k) cs
      cases e with
      | normal =>
        obtain ⟨m, hlt, hI₁⟩ := hq
        obtain ⟨e₂, a₂, w₂, hq₂, harr₂⟩ := ih m hlt a₁ w₁ hI₁
        exact ⟨e₂, a₂, w₂, hq₂, .of_steps (Steps.trans harr (.one step_inLoop)) harr₂⟩
      | exit id => exact ⟨_, a₁, w₁, hq, .pass (x := .inLoop c) rfl (fun _ _ => .inl (by simp)) harr⟩
      | goto l => exact ⟨_, a₁, w₁, hq, .pass (x := .inLoop c) rfl (fun _ _ => .inl (by simp)) harr⟩
      | ret => exact ⟨_, a₁, w₁, hq, .pass (x := .inLoop c) rfl (fun _ _ => .inl (by simp)) harr⟩
      | panic ch => exact ⟨_, a₁, w₁, hq, .pass (x := .inLoop c) rfl (fun _ _ => .inl (by simp)) harr⟩
      | outgrown => exact ⟨_, a₁, w₁, hq, .pass (x := .inLoop c) rfl (fun _ _ => .inl (by simp)) harr⟩
  obtain ⟨e, a', w', hq, harr⟩ := key _ a w h0
  exact ⟨e, a', w', hq, .of_steps (.one step_loop) harr⟩
theorem C_ret {a : Act} (h : Qx .ret a w) : Code.ret.wp P Qx a w := wp_ret h
theorem C_skip {a : Act} (h : Qx .normal a w) : Code.skip.wp P Qx a w := wp_skip h
theorem C_exit {a : Act} {id : Nat} (h : Qx (.exit id) a w) : (Code.exit id).wp P Qx a w := wp_exit h
def rvOf (tmps : Array Value) : ResultVar → Sem Value
  | .tmp t => pure (tmps.getD t undef)
  | .cell a t => do loadVar t (← asAddr (tmps.getD a undef))
/-- the end of a body: what it hands back -/
theorem post_tmps {fn : Func} {ts : List Nat} {e : Exit} (he : e = .normal ∨ e = .ret) (hr : fn.results = (ts.map ResultVar.tmp).toArray)
    (h : Qm (match ts.map (fun t => opv N ρ (.tmp t)) with | [v] => v | vs => .tuple vs.toArray) w) : bodyPost P fn (Rt Qm) e (act N ρ) w := by
  have hv : (results fn (act N ρ).tmps).run P w = .ok (match ts.map (fun t => opv N ρ (.tmp t)) with | [v] => v | vs => .tuple vs.toArray) w := by
    obtain ⟨nm, og, tg, ps, rts, nf, nt, rs, bd, nr, ou, fi, el, ln, mt, tn⟩ := fn
    simp only at hr
    subst hr
    have h1 : results ⟨nm, og, tg, ps, rts, nf, nt, (ts.map ResultVar.tmp).toArray, bd, nr, ou, fi, el, ln, mt, tn⟩ (act N ρ).tmps = (do
      let vs ← (ts.map ResultVar.tmp).toArray.mapM (rvOf (act N ρ).tmps)
      pure (if h : vs.size = 1 then vs[0] else .tuple vs)) := rfl
    have hm : (ts.map ResultVar.tmp).toArray.mapM (rvOf (act N ρ).tmps) = pure (ts.map (fun t => opv N ρ (.tmp t))).toArray := by
      rw [List.mapM_toArray]
      have : ∀ l : List Nat, (l.map ResultVar.tmp).mapM (rvOf (act N ρ).tmps) = pure (l.map (fun t => opv N ρ (.tmp t))) := by
        intro l
        induction l with
        | nil => rfl
        | cons t l ih =>
          simp only [List.map_cons, List.mapM_cons, ih]
          simp only [rvOf, tmps_act, opv, pure_bind]
      rw [this]; simp
    rw [h1, hm]
    simp only [pure_bind, Sem.run_pure]
    match ts with
    | [] => rfl
    | [v] => rfl
    | a :: b :: r => rfl
  rcases he with rfl | rfl
  · exact ⟨rfl, _, hv, h⟩
  · exact ⟨rfl, _, hv, h⟩
end
end Sh
end Go.Proofs.Ytlmiimojgledpaa
