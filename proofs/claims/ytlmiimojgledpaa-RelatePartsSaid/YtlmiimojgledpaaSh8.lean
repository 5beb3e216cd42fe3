/- The last of the first layers: a draw; results that lie in memory. -/
import Derived.Test.YtlmiimojgledpaaSh7
set_option linter.unusedVariables false
namespace Go.Proofs.Ytlmiimojgledpaa
namespace Sh
theorem kp_1 {F : World → Prop} {X : M} {w : World} {Q : Value → World → Prop} (h : kp F X w Q) : F w := h.1
theorem kp_2 {F : World → Prop} {X : M} {w : World} {Q : Value → World → Prop} (h : kp F X w Q) : X w Q := h.2
theorem amb_1 {X Y : M} {w : World} {Q : Value → World → Prop} (h : amb X Y w Q) : X w Q := h.1
theorem amb_2 {X Y : M} {w : World} {Q : Value → World → Prop} (h : amb X Y w Q) : Y w Q := h.2
def dr (X : M) : M := fun w Q => X (drw w) Q
theorem dr_e {X : M} {w : World} {Q : Value → World → Prop} (h : dr X w Q) : X (drw w) Q := h
section
variable {P : Program} {N : Nat} {ρ : Nat → Value} {w : World} {Qm : Value → World → Prop} {K : Value → M}
def rvO (ρ : Nat → Value) (N : Nat) : ResultVar → Sem Value
  | .tmp t => pure (opv N ρ (.tmp t))
  | .cell a t => do loadVar t (← asAddr (opv N ρ (.tmp a)))
def oneOr : List Value → Value
  | [v] => v
  | vs => .tuple vs.toArray
def RS (P : Program) (N : Nat) (ρ : Nat → Value) (w : World) : List ResultVar → List Value → Prop
  | [], [] => True
  | r :: rs, v :: vs => (rvO ρ N r).run P w = .ok v w ∧ RS P N ρ w rs vs
  | _, _ => False
theorem rv_tmp {t : Nat} : (rvO ρ N (.tmp t)).run P w = .ok (opv N ρ (.tmp t)) w := rfl
theorem rv_ldn {t : TypeId} {n a : Nat} (ht : isAg P t n = true) (h : ldn n (opv N ρ (.tmp a)) K w Qm) : ∃ v, (rvO ρ N (.cell a t)).run P w = .ok v w ∧ K v w Qm := by
  obtain ⟨b, cs, hx, hn, hv, hk⟩ := h
  refine ⟨_, ?_, hk⟩
  have := run_loadCellsFrom_rds (P := P) hv n 0 #[] (by omega)
  simp [rvO, hx, asAddr, loadVar, run_isAgg_ag ht, run_sizeOf_ag ht, loadCells, this]
theorem rv_ld {t : TypeId} {a : Nat} (ht : isSc P t = true) (h : ld (opv N ρ (.tmp a)) K w Qm) : ∃ v, (rvO ρ N (.cell a t)).run P w = .ok v w ∧ K v w Qm := by
  obtain ⟨b, v, hx, hv, hk⟩ := h
  refine ⟨v, ?_, hk⟩
  simp [rvO, hx, asAddr, loadVar, run_isAgg_sc ht, hv]
theorem post_gen {fn : Func} {rs : List ResultVar} {vs : List Value} {e : Exit} (he : e = .normal ∨ e = .ret) (hr : fn.results = rs.toArray) (hs : RS P N ρ w rs vs)
    (h : Qm (oneOr vs) w) : bodyPost P fn (Rt Qm) e (act N ρ) w := by
  have hv : (results fn (act N ρ).tmps).run P w = .ok (oneOr vs) w := by
    obtain ⟨nm, og, tg, ps, rts, nf, nt, rs', bd, nr, ou, fi, el, ln, mt, tn⟩ := fn
    simp only at hr
    subst hr
    have h1 : results ⟨nm, og, tg, ps, rts, nf, nt, rs.toArray, bd, nr, ou, fi, el, ln, mt, tn⟩ (act N ρ).tmps = (do
      let vs ← rs.toArray.mapM (rvOf (act N ρ).tmps)
      pure (if h : vs.size = 1 then vs[0] else .tuple vs)) := rfl
    have h0 : rvOf (act N ρ).tmps = rvO ρ N := by
      funext r
      cases r with
      | tmp t => simp only [rvOf, rvO, tmps_act, opv]
      | cell a t => simp only [rvOf, rvO, tmps_act, opv]
    have hm : ∀ (rs : List ResultVar) (vs : List Value), RS P N ρ w rs vs → (rs.mapM (rvO ρ N)).run P w = .ok vs w := by
      intro rs
      induction rs with
      | nil => intro vs h; cases vs with
        | nil => rfl
        | cons v vs => exact h.elim
      | cons r rs ih => intro vs h; cases vs with
        | nil => exact h.elim
        | cons v vs => simp only [List.mapM_cons, Sem.run_bind, h.1, Result.andThen_ok, ih vs h.2, Sem.run_pure]
    rw [h1, h0, List.mapM_toArray]
    simp only [map_eq_pure_bind, bind_assoc, pure_bind, Sem.run_bind, hm rs vs hs, Result.andThen_ok, Sem.run_pure]
    match vs with
    | [] => rfl
    | [v] => rfl
    | a :: b :: r => rfl
  rcases he with rfl | rfl
  · exact ⟨rfl, _, hv, h⟩
  · exact ⟨rfl, _, hv, h⟩
theorem post_res {fn : Func} (rs : List ResultVar) {e : Exit} (he : e = .normal ∨ e = .ret) (hr : fn.results = rs.toArray) (h : ∃ vs, RS P N ρ w rs vs ∧ Qm (oneOr vs) w) : bodyPost P fn (Rt Qm) e (act N ρ) w := by
  obtain ⟨vs, hs, h⟩ := h
  exact post_gen he hr hs h
theorem res_ldn {rs : List ResultVar} (a : Nat) (t : TypeId) {n : Nat} (ht : isAg P t n = true) (h : ldn n (opv N ρ (.tmp a)) K w Qm)
    (c : ∀ v, (rvO ρ N (.cell a t)).run P w = .ok v w → K v w Qm → ∃ vs, RS P N ρ w rs vs ∧ Qm (oneOr vs) w) : ∃ vs, RS P N ρ w rs vs ∧ Qm (oneOr vs) w := by
  obtain ⟨v, hv, hk⟩ := rv_ldn ht h
  exact c v hv hk
theorem res_ld {rs : List ResultVar} (a : Nat) (t : TypeId) (ht : isSc P t = true) (h : ld (opv N ρ (.tmp a)) K w Qm)
    (c : ∀ v, (rvO ρ N (.cell a t)).run P w = .ok v w → K v w Qm → ∃ vs, RS P N ρ w rs vs ∧ Qm (oneOr vs) w) : ∃ vs, RS P N ρ w rs vs ∧ Qm (oneOr vs) w := by
  obtain ⟨v, hv, hk⟩ := rv_ld ht h
  exact c v hv hk
end
end Sh
end Go.Proofs.Ytlmiimojgledpaa
