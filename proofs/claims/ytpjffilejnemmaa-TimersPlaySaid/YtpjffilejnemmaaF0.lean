/- Functions as predicate transformers, and that the machine does what they say, by program. -/
import Derived.Test.YtpjffilejnemmaaTy
set_option linter.unusedVariables false
set_option maxRecDepth 20000
set_option maxHeartbeats 4000000
namespace Go.Proofs.Ytpjffilejnemmaa
open Sh
attribute [local irreducible] wpL anyG act jn lo gdB amb kp smr nc fa ld ldn st stn ad su mu qu re lt le gt ge eqi nei bws shl shr cat eqs nes lts gts eqb neb nt pk cv al bx ex fld fldn lnl lns ia iaa ixs sls sll sla mif mnm mxm mm asrt sm smu cl cc cf ci cnd gd gdu
/- factotum/timers.New -/
def f9 : M :=
  mm fun t1 =>
  smr Try.prog (Instr.build 54 #[(1, t1)]) fun t2 =>
  bx 54 t2 fun t3 =>
  rt t3
theorem s9 (w : World) (Q : Value → World → Prop) (h : f9 w Q) : Calls Try.prog 9 #[] w (Rt Q) := by
  refine calls_of (l := []) Try.func9 rfl Try.ntmps9 (Nat.le_of_ble_eq_true rfl) ?_
  unfold f9 at h
  refine wp_seq ?_
  refine L_region ?_
  refine L_as ?_
  refine L_nil ?_
  refine E_n ?_
  refine wp_seq ?_
  refine L_region ?_
  refine L_u (P_mm h) ?_
  intro v w h
  refine L_u (N_bld h) ?_
  intro v w h
  refine L_u (P_bx h) ?_
  intro v w h
  refine L_as ?_
  refine L_nil ?_
  refine E_n ?_
  refine C_ret ?_
  show bodyPost Try.prog Try.f9 (Rt Q) .ret _ _
  exact post_tmps (ts := [0]) (.inr rfl) rfl h

/- container/heap.down -/
def f26_j3 (j1 : Value → Value → M) (self2 : Value → Value → Value → Value → M) (t0_2 t1_2 t2_2 t7_1 t9 : Value) : M :=
  ci Try.prog t0_2 "Less" #[t9, t7_1] fun t38 =>
  nt t38 fun t39 =>
  cnd t39 (
    j1 t1_2 t7_1
    ) (
    ci Try.prog t0_2 "Swap" #[t7_1, t9] fun t43 =>
    self2 t0_2 t1_2 t2_2 t9
    )
def f26_b2 (j1 : Value → Value → M) (self2 : Value → Value → Value → Value → M) (t0_1 t1_1 t2_1 t7 : Value) : M :=
  mu .i64 (.int .i64 2) t7 fun t13 =>
  ad .i64 t13 (.int .i64 1) fun t14 =>
  ge .i64 t14 t2_1 fun t17 =>
  gd t17 false (idv t14) fun t19 =>
  gd t17 false (lt .i64 t19 (.int .i64 0)) fun t20 =>
  pk t17 (.bool true) t20 fun t21 =>
  cnd t21 (
    j1 t1_1 t7
    ) (
    ad .i64 t14 (.int .i64 1) fun t24 =>
    lt .i64 t24 t2_1 fun t27 =>
    gd t27 true (idv t0_1) fun t29 =>
    gd t27 true (idv t24) fun t30 =>
    gd t27 true (idv t14) fun t31 =>
    gd t27 true (ci Try.prog t29 "Less" #[t30, t31]) fun t32 =>
    pk t27 t32 (.bool false) fun t33 =>
    jn (fun (j3 : Value → Value → Value → Value → Value → M) =>
      cnd t33 (
        j3 t0_1 t1_1 t2_1 t7 t24
        ) (
        j3 t0_1 t1_1 t2_1 t7 t14
        )
      ) (f26_j3 j1 self2)
    )
def f26_j1 (t1_3 t7_2 : Value) : M :=
  gt .i64 t7_2 t1_3 fun t47 =>
  rt t47
def f26 (t0 t1 t2 : Value) : M :=
  jn (fun (j1 : Value → Value → M) =>
    lo (fun _ _ _ _ => bot) (f26_b2 j1) (fun l => l t0 t1 t2 t1)
    ) (f26_j1)
theorem s26 (t0 t1 t2 : Value) (w : World) (Q : Value → World → Prop) (h : f26 t0 t1 t2 w Q) : Calls Try.prog 26 #[t0, t1, t2] w (Rt Q) := by
  refine calls_of (l := [t0, t1, t2]) Try.func26 rfl Try.ntmps26 (Nat.le_of_ble_eq_true rfl) ?_
  unfold f26 at h
  refine wp_seq ?_
  refine L_region ?_
  refine L_as ?_
  refine L_nil ?_
  refine E_n ?_
  refine wp_seq ?_
  refine L_region ?_
  refine L_mv ?_
  refine L_as ?_
  refine L_nil ?_
  refine E_n ?_
  refine wp_seq ?_
  refine C_join (fun (k : Value → Value → M) (ρ : Nat → Value) => k (ρ 1) (ρ 7)) h (fun j1 J1 h => ?_) (fun ρ w h => ?_)
  · refine C_blk ?_
    refine C_lo (fun (l : Value → Value → Value → Value → M) (ρ : Nat → Value) => l (ρ 0) (ρ 1) (ρ 2) (ρ 7)) h (fun ρ w h => h) (fun nx self2 L2 ρ w h => ?_)
    unfold f26_b2 at h
    refine C_blk ?_
    refine wp_seq ?_
    refine L_region ?_
    refine L_mv ?_
    refine L_u (P_mu h) ?_
    intro v w h
    refine L_u (P_ad h) ?_
    intro v w h
    refine L_as ?_
    refine L_nil ?_
    refine E_n ?_
    refine wp_seq ?_
    refine wp_seq ?_
    refine L_region ?_
    refine L_mv ?_
    refine L_mv ?_
    refine L_u (P_ge h) ?_
    intro v w h
    refine L_mv ?_
    refine L_g (t := 18) h rfl rfl (fun c h => P_mv h c) ?_
    intro v w h
    refine L_g (t := 18) h rfl rfl (fun c h => P_lt h c) ?_
    intro v w h
    refine L_u (P_pk h) ?_
    intro v w h
    refine L_nil ?_
    refine E_n ?_
    refine C_cnd h (fun h => ?_) (fun h => ?_)
    · refine C_exit ?_
      refine E_x ?_
      refine B_o rfl ?_
      refine E_x ?_
      refine B_x ?_
      exact J1 _ _ h
    · refine C_skip ?_
      refine E_n ?_
      refine wp_seq ?_
      refine L_region ?_
      refine L_mv ?_
      refine L_as ?_
      refine L_nil ?_
      refine E_n ?_
      refine wp_seq ?_
      refine wp_seq ?_
      refine L_region ?_
      refine L_mv ?_
      refine L_u (P_ad h) ?_
      intro v w h
      refine L_as ?_
      refine L_nil ?_
      refine E_n ?_
      refine wp_seq ?_
      refine L_region ?_
      refine L_mv ?_
      refine L_mv ?_
      refine L_u (P_lt h) ?_
      intro v w h
      refine L_mv ?_
      refine L_g (t := 28) h rfl rfl (fun c h => P_mv h c) ?_
      intro v w h
      refine L_g (t := 28) h rfl rfl (fun c h => P_mv h c) ?_
      intro v w h
      refine L_g (t := 28) h rfl rfl (fun c h => P_mv h c) ?_
      intro v w h
      refine L_g (t := 28) h rfl rfl (fun c h => N_ci h c) ?_
      intro v w h
      refine L_u (P_pk h) ?_
      intro v w h
      refine L_nil ?_
      refine E_n ?_
      refine C_join (fun (k : Value → Value → Value → Value → Value → M) (ρ : Nat → Value) => k (ρ 0) (ρ 1) (ρ 2) (ρ 7) (ρ 9)) h (fun j3 J3 h => ?_) (fun ρ w h => ?_)
      · refine C_cnd h (fun h => ?_) (fun h => ?_)
        · refine L_region ?_
          refine L_mv ?_
          refine L_as ?_
          refine L_nil ?_
          exact J3 _ _ h
        · refine C_skip ?_
          exact J3 _ _ h
      · unfold f26_j3 at h
        refine E_n ?_
        refine wp_seq ?_
        refine wp_seq ?_
        refine L_region ?_
        refine L_mv ?_
        refine L_mv ?_
        refine L_mv ?_
        refine L_u (N_ci h) ?_
        intro v w h
        refine L_u (P_nt h) ?_
        intro v w h
        refine L_nil ?_
        refine E_n ?_
        refine C_cnd h (fun h => ?_) (fun h => ?_)
        · refine C_exit ?_
          refine E_x ?_
          refine B_o rfl ?_
          refine E_x ?_
          refine B_x ?_
          exact J1 _ _ h
        · refine C_skip ?_
          refine E_n ?_
          refine wp_seq ?_
          refine L_region ?_
          refine L_mv ?_
          refine L_mv ?_
          refine L_mv ?_
          refine L_u (N_ci h) ?_
          intro v w h
          refine L_nil ?_
          refine E_n ?_
          refine L_region ?_
          refine L_mv ?_
          refine L_as ?_
          refine L_nil ?_
          refine B_n ?_
          refine E_n ?_
          exact L2 _ _ h
  · unfold f26_j1 at h
    refine E_n ?_
    refine wp_seq ?_
    refine L_region ?_
    refine L_mv ?_
    refine L_mv ?_
    refine L_u (P_gt h) ?_
    intro v w h
    refine L_as ?_
    refine L_nil ?_
    refine E_n ?_
    refine C_ret ?_
    show bodyPost Try.prog Try.f26 (Rt Q) .ret _ _
    exact post_tmps (ts := [6]) (.inr rfl) rfl h

/- container/heap.up -/
def f27_b1 (self1 : Value → Value → M) (t0_1 t1_1 : Value) : M :=
  su .i64 t1_1 (.int .i64 1) fun t6 =>
  qu .i64 t6 (.int .i64 2) fun t7 =>
  eqi .i64 t7 t1_1 fun t10 =>
  gd t10 false (idv t0_1) fun t12 =>
  gd t10 false (idv t1_1) fun t13 =>
  gd t10 false (idv t7) fun t14 =>
  gd t10 false (ci Try.prog t12 "Less" #[t13, t14]) fun t15 =>
  gd t10 false (nt t15) fun t16 =>
  pk t10 (.bool true) t16 fun t17 =>
  cnd t17 (
    rt (.tuple #[])
    ) (
    ci Try.prog t0_1 "Swap" #[t7, t1_1] fun t21 =>
    self1 t0_1 t7
    )
def f27 (t0 t1 : Value) : M :=
  lo (fun _ _ => bot) (f27_b1) (fun l => l t0 t1)
theorem s27 (t0 t1 : Value) (w : World) (Q : Value → World → Prop) (h : f27 t0 t1 w Q) : Calls Try.prog 27 #[t0, t1] w (Rt Q) := by
  refine calls_of (l := [t0, t1]) Try.func27 rfl Try.ntmps27 (Nat.le_of_ble_eq_true rfl) ?_
  unfold f27 at h
  refine C_blk ?_
  refine C_lo (fun (l : Value → Value → M) (ρ : Nat → Value) => l (ρ 0) (ρ 1)) h (fun ρ w h => h) (fun nx self1 L1 ρ w h => ?_)
  unfold f27_b1 at h
  refine C_blk ?_
  refine wp_seq ?_
  refine L_region ?_
  refine L_mv ?_
  refine L_u (P_su h) ?_
  intro v w h
  refine L_u (P_qu h) ?_
  intro v w h
  refine L_as ?_
  refine L_nil ?_
  refine E_n ?_
  refine wp_seq ?_
  refine wp_seq ?_
  refine L_region ?_
  refine L_mv ?_
  refine L_mv ?_
  refine L_u (P_eqi h) ?_
  intro v w h
  refine L_mv ?_
  refine L_g (t := 11) h rfl rfl (fun c h => P_mv h c) ?_
  intro v w h
  refine L_g (t := 11) h rfl rfl (fun c h => P_mv h c) ?_
  intro v w h
  refine L_g (t := 11) h rfl rfl (fun c h => P_mv h c) ?_
  intro v w h
  refine L_g (t := 11) h rfl rfl (fun c h => N_ci h c) ?_
  intro v w h
  refine L_g (t := 11) h rfl rfl (fun c h => P_nt h c) ?_
  intro v w h
  refine L_u (P_pk h) ?_
  intro v w h
  refine L_nil ?_
  refine E_n ?_
  refine C_cnd h (fun h => ?_) (fun h => ?_)
  · refine C_exit ?_
    refine E_x ?_
    refine B_o rfl ?_
    refine E_x ?_
    refine B_x ?_
    show bodyPost Try.prog Try.f27 (Rt Q) .normal _ _
    exact post_tmps (ts := []) (.inl rfl) rfl h
  · refine C_skip ?_
    refine E_n ?_
    refine wp_seq ?_
    refine L_region ?_
    refine L_mv ?_
    refine L_mv ?_
    refine L_mv ?_
    refine L_u (N_ci h) ?_
    intro v w h
    refine L_nil ?_
    refine E_n ?_
    refine L_region ?_
    refine L_mv ?_
    refine L_as ?_
    refine L_nil ?_
    refine B_n ?_
    refine E_n ?_
    exact L1 _ _ h

/- container/heap.Fix -/
def f22 (t0 t1 : Value) : M :=
  ci Try.prog t0 "Len" #[] fun t7 =>
  cl (f26 t0 t1 t7) fun t8 =>
  nt t8 fun t9 =>
  cnd t9 (
    cl (f27 t0 t1) fun t12 =>
    rt (.tuple #[])
    ) (
    rt (.tuple #[])
    )
theorem s22 (t0 t1 : Value) (w : World) (Q : Value → World → Prop) (h : f22 t0 t1 w Q) : Calls Try.prog 22 #[t0, t1] w (Rt Q) := by
  refine calls_of (l := [t0, t1]) Try.func22 rfl Try.ntmps22 (Nat.le_of_ble_eq_true rfl) ?_
  unfold f22 at h
  refine wp_seq ?_
  refine L_region ?_
  refine L_mv ?_
  refine L_mv ?_
  refine L_mv ?_
  refine L_u (N_ci h) ?_
  intro v w h
  refine L_u (N_cl Try.func26 rfl nn26 (fun w Q h => s26 _ _ _ w Q h) h) ?_
  intro v w h
  refine L_u (P_nt h) ?_
  intro v w h
  refine L_nil ?_
  refine E_n ?_
  refine C_cnd h (fun h => ?_) (fun h => ?_)
  · refine L_region ?_
    refine L_mv ?_
    refine L_mv ?_
    refine L_u (N_cl Try.func27 rfl nn27 (fun w Q h => s27 _ _ w Q h) h) ?_
    intro v w h
    refine L_nil ?_
    show bodyPost Try.prog Try.f22 (Rt Q) .normal _ _
    exact post_tmps (ts := []) (.inl rfl) rfl h
  · refine C_skip ?_
    show bodyPost Try.prog Try.f22 (Rt Q) .normal _ _
    exact post_tmps (ts := []) (.inl rfl) rfl h

/- container/heap.Push -/
def f23 (t0 t1 : Value) : M :=
  ci Try.prog t0 "Push" #[t1] fun t6 =>
  ci Try.prog t0 "Len" #[] fun t9 =>
  su .i64 t9 (.int .i64 1) fun t10 =>
  cl (f27 t0 t10) fun t11 =>
  rt (.tuple #[])
theorem s23 (t0 t1 : Value) (w : World) (Q : Value → World → Prop) (h : f23 t0 t1 w Q) : Calls Try.prog 23 #[t0, t1] w (Rt Q) := by
  refine calls_of (l := [t0, t1]) Try.func23 rfl Try.ntmps23 (Nat.le_of_ble_eq_true rfl) ?_
  unfold f23 at h
  refine wp_seq ?_
  refine L_region ?_
  refine L_mv ?_
  refine L_mv ?_
  refine L_u (N_ci h) ?_
  intro v w h
  refine L_nil ?_
  refine E_n ?_
  refine L_region ?_
  refine L_mv ?_
  refine L_mv ?_
  refine L_u (N_ci h) ?_
  intro v w h
  refine L_u (P_su h) ?_
  intro v w h
  refine L_u (N_cl Try.func27 rfl nn27 (fun w Q h => s27 _ _ w Q h) h) ?_
  intro v w h
  refine L_nil ?_
  show bodyPost Try.prog Try.f23 (Rt Q) .normal _ _
  exact post_tmps (ts := []) (.inl rfl) rfl h

/- (*factotum/timers.Timers).Set -/
def f10 (t0 t1 t2 : Value) : M :=
  smr Try.prog (do eqGuard .eql 25 (.tmp 9) (.const (.pointer none)) t0 (.pointer none); binOp .eql 25 t0 (.pointer none)) fun t10 =>
  cnd t10 (
    rt (.tuple #[])
    ) (
    nc t0 fun t13 =>
    fa 1 t13 fun t14 =>
    ld t14 fun t15 =>
    smr Try.prog (Instr.lookup 50 t15 t1 true) fun t17 =>
    ex 0 t17 fun t18 =>
    ex 1 t17 fun t19 =>
    cnd t19 (
      nc t18 fun t23 =>
      fa 1 t23 fun t24 =>
      st t24 t2 <|
      dr <|
      idv t0 fun t25 =>
      nc t25 fun t26 =>
      fa 0 t26 fun t27 =>
      mif 60 t27 fun t28 =>
      idv t18 fun t29 =>
      nc t29 fun t30 =>
      fa 2 t30 fun t31 =>
      ld t31 fun t32 =>
      cl (f22 t28 t32) fun t33 =>
      rt (.tuple #[])
      ) (
      smr Try.prog (Instr.build 58 #[(0, t1), (1, t2)]) fun t36 =>
      bx 58 t36 fun t37 =>
      nc t0 fun t39 =>
      fa 1 t39 fun t40 =>
      ld t40 fun t41 =>
      smu Try.prog (Instr.mapUpdate 50 t41 t1 t37) <|
      nc t0 fun t45 =>
      fa 0 t45 fun t46 =>
      mif 60 t46 fun t47 =>
      mif 55 t37 fun t49 =>
      cl (f23 t47 t49) fun t50 =>
      rt (.tuple #[])
      )
    )
theorem s10 (t0 t1 t2 : Value) (w : World) (Q : Value → World → Prop) (h : f10 t0 t1 t2 w Q) : Calls Try.prog 10 #[t0, t1, t2] w (Rt Q) := by
  refine calls_of (l := [t0, t1, t2]) Try.func10 rfl Try.ntmps10 (Nat.le_of_ble_eq_true rfl) ?_
  unfold f10 at h
  refine wp_seq ?_
  refine wp_seq ?_
  refine L_region ?_
  refine L_mv ?_
  refine L_u (P_smr rfl h) ?_
  intro v w h
  refine L_nil ?_
  refine E_n ?_
  refine C_cnd h (fun h => ?_) (fun h => ?_)
  · refine C_ret ?_
    show bodyPost Try.prog Try.f10 (Rt Q) .ret _ _
    exact post_tmps (ts := []) (.inr rfl) rfl h
  · refine C_skip ?_
    refine E_n ?_
    refine wp_seq ?_
    refine wp_seq ?_
    refine L_region ?_
    refine L_mv ?_
    refine L_u (P_nc h) ?_
    intro v w h
    refine L_u (P_fa fo54_1 h) ?_
    intro v w h
    refine L_u (P_ld sc50 h) ?_
    intro v w h
    refine L_mv ?_
    refine L_u (P_smr rfl h) ?_
    intro v w h
    refine L_mv ?_
    refine L_u (P_ex h) ?_
    intro v w h
    refine L_u (P_ex h) ?_
    intro v w h
    refine L_as ?_
    refine L_as ?_
    refine L_nil ?_
    refine E_n ?_
    refine wp_seq ?_
    refine L_region ?_
    refine L_mv ?_
    refine L_nil ?_
    refine E_n ?_
    refine C_cnd h (fun h => ?_) (fun h => ?_)
    · refine wp_seq ?_
      refine L_region ?_
      refine L_mv ?_
      refine L_mv ?_
      refine L_u (P_nc h) ?_
      intro v w h
      refine L_u (P_fa fo58_1 h) ?_
      intro v w h
      refine L_u (P_st on2 h) ?_
      intro w h
      refine L_nil ?_
      refine E_n ?_
      refine wp_seq ?_
      refine D_region (by decide +kernel) 9 rfl ?_
      replace h := dr_e h
      refine G_p 0 rfl (by decide +kernel) (Y_mv h) ?_
      intro v h
      refine G_p 1 rfl (by decide +kernel) (Y_nc h) ?_
      intro v h
      refine G_p 2 rfl (by decide +kernel) (Y_fa fo54_0 h) ?_
      intro v h
      refine G_p 3 rfl (by decide +kernel) (Y_mif co60 h) ?_
      intro v h
      refine G_p 4 rfl (by decide +kernel) (Y_mv h) ?_
      intro v h
      refine G_p 5 rfl (by decide +kernel) (Y_nc h) ?_
      intro v h
      refine G_p 6 rfl (by decide +kernel) (Y_fa fo58_2 h) ?_
      intro v h
      refine G_r _ 7 rfl (by decide +kernel) (R_ld sc3 h) ?_
      intro v h
      refine G_e 8 rfl (by decide +kernel) (N_cl Try.func22 rfl nn22 (fun w Q h => s22 _ _ w Q h) h ?_)
      intro v w h
      refine ⟨keepF_dep [7] (by decide +kernel) rfl keepF_nil, ?_⟩
      refine G_done (by decide +kernel) ?_
      refine E_n ?_
      refine C_ret ?_
      show bodyPost Try.prog Try.f10 (Rt Q) .ret _ _
      exact post_tmps (ts := []) (.inr rfl) rfl h
    · refine C_skip ?_
      refine E_n ?_
      refine wp_seq ?_
      refine L_region ?_
      refine L_mv ?_
      refine L_mv ?_
      refine L_u (N_bld h) ?_
      intro v w h
      refine L_u (P_bx h) ?_
      intro v w h
      refine L_as ?_
      refine L_nil ?_
      refine E_n ?_
      refine wp_seq ?_
      refine L_region ?_
      refine L_mv ?_
      refine L_u (P_nc h) ?_
      intro v w h
      refine L_u (P_fa fo54_1 h) ?_
      intro v w h
      refine L_u (P_ld sc50 h) ?_
      intro v w h
      refine L_mv ?_
      refine L_mv ?_
      refine L_u (P_smu rfl h) ?_
      intro w h
      refine L_nil ?_
      refine E_n ?_
      refine L_region ?_
      refine L_mv ?_
      refine L_u (P_nc h) ?_
      intro v w h
      refine L_u (P_fa fo54_0 h) ?_
      intro v w h
      refine L_u (P_mif co60 h) ?_
      intro v w h
      refine L_mv ?_
      refine L_u (P_mif co55 h) ?_
      intro v w h
      refine L_u (N_cl Try.func23 rfl nn23 (fun w Q h => s23 _ _ w Q h) h) ?_
      intro v w h
      refine L_nil ?_
      show bodyPost Try.prog Try.f10 (Rt Q) .normal _ _
      exact post_tmps (ts := []) (.inl rfl) rfl h

/- (*factotum/timers.Timers).Len -/
def f13 (t0 : Value) : M :=
  smr Try.prog (do eqGuard .eql 25 (.tmp 3) (.const (.pointer none)) t0 (.pointer none); binOp .eql 25 t0 (.pointer none)) fun t4 =>
  cnd t4 (
    rt (.int .i64 0)
    ) (
    nc t0 fun t6 =>
    fa 0 t6 fun t7 =>
    ld t7 fun t8 =>
    lnl t8 fun t9 =>
    rt t9
    )
theorem s13 (t0 : Value) (w : World) (Q : Value → World → Prop) (h : f13 t0 w Q) : Calls Try.prog 13 #[t0] w (Rt Q) := by
  refine calls_of (l := [t0]) Try.func13 rfl Try.ntmps13 (Nat.le_of_ble_eq_true rfl) ?_
  unfold f13 at h
  refine wp_seq ?_
  refine L_region ?_
  refine L_as ?_
  refine L_nil ?_
  refine E_n ?_
  refine wp_seq ?_
  refine wp_seq ?_
  refine L_region ?_
  refine L_mv ?_
  refine L_u (P_smr rfl h) ?_
  intro v w h
  refine L_nil ?_
  refine E_n ?_
  refine C_cnd h (fun h => ?_) (fun h => ?_)
  · refine wp_seq ?_
    refine L_region ?_
    refine L_as ?_
    refine L_nil ?_
    refine E_n ?_
    refine C_ret ?_
    show bodyPost Try.prog Try.f13 (Rt Q) .ret _ _
    exact post_tmps (ts := [2]) (.inr rfl) rfl h
  · refine C_skip ?_
    refine E_n ?_
    refine wp_seq ?_
    refine L_region ?_
    refine L_mv ?_
    refine L_u (P_nc h) ?_
    intro v w h
    refine L_u (P_fa fo54_0 h) ?_
    intro v w h
    refine L_u (P_ld sc52 h) ?_
    intro v w h
    refine L_u (P_lnl is52 h) ?_
    intro v w h
    refine L_as ?_
    refine L_nil ?_
    refine E_n ?_
    refine C_ret ?_
    show bodyPost Try.prog Try.f13 (Rt Q) .ret _ _
    exact post_tmps (ts := [2]) (.inr rfl) rfl h

/- container/heap.Pop -/
def f24 (t0 : Value) : M :=
  ci Try.prog t0 "Len" #[] fun t5 =>
  su .i64 t5 (.int .i64 1) fun t6 =>
  ci Try.prog t0 "Swap" #[(.int .i64 0), t6] fun t9 =>
  cl (f26 t0 (.int .i64 0) t6) fun t12 =>
  ci Try.prog t0 "Pop" #[] fun t14 =>
  rt t14
theorem s24 (t0 : Value) (w : World) (Q : Value → World → Prop) (h : f24 t0 w Q) : Calls Try.prog 24 #[t0] w (Rt Q) := by
  refine calls_of (l := [t0]) Try.func24 rfl Try.ntmps24 (Nat.le_of_ble_eq_true rfl) ?_
  unfold f24 at h
  refine wp_seq ?_
  refine L_region ?_
  refine L_as ?_
  refine L_nil ?_
  refine E_n ?_
  refine wp_seq ?_
  refine L_region ?_
  refine L_mv ?_
  refine L_u (N_ci h) ?_
  intro v w h
  refine L_u (P_su h) ?_
  intro v w h
  refine L_as ?_
  refine L_nil ?_
  refine E_n ?_
  refine wp_seq ?_
  refine L_region ?_
  refine L_mv ?_
  refine L_mv ?_
  refine L_u (N_ci h) ?_
  intro v w h
  refine L_nil ?_
  refine E_n ?_
  refine wp_seq ?_
  refine L_region ?_
  refine L_mv ?_
  refine L_mv ?_
  refine L_u (N_cl Try.func26 rfl nn26 (fun w Q h => s26 _ _ _ w Q h) h) ?_
  intro v w h
  refine L_nil ?_
  refine E_n ?_
  refine wp_seq ?_
  refine L_region ?_
  refine L_mv ?_
  refine L_u (N_ci h) ?_
  intro v w h
  refine L_as ?_
  refine L_nil ?_
  refine E_n ?_
  refine C_ret ?_
  show bodyPost Try.prog Try.f24 (Rt Q) .ret _ _
  exact post_tmps (ts := [2]) (.inr rfl) rfl h

/- (*factotum/timers.Timers).Due -/
def f12_b2 (j1 : Value → M) (self2 : Value → Value → Value → M) (t0_1 t1_1 t5 : Value) : M :=
  cl (f13 t0_1) fun t8 =>
  gt .i64 t8 (.int .i64 0) fun t9 =>
  gd t9 true (idv t0_1) fun t11 =>
  gd t9 true (nc t11) fun t12 =>
  gd t9 true (fa 0 t12) fun t13 =>
  gd t9 true (ld t13) fun t14 =>
  gd t9 true (ia 1 t14 (.int .i64 0)) fun t15 =>
  gd t9 true (ld t15) fun t16 =>
  gd t9 true (nc t16) fun t17 =>
  gd t9 true (fa 1 t17) fun t18 =>
  gd t9 true (ld t18) fun t19 =>
  gd t9 true (idv t1_1) fun t20 =>
  gd t9 true (le .i64 t19 t20) fun t21 =>
  pk t9 t21 (.bool false) fun t22 =>
  cnd t22 (
    nc t0_1 fun t24 =>
    fa 0 t24 fun t25 =>
    mif 60 t25 fun t26 =>
    cl (f24 t26) fun t27 =>
    asrt 55 t27 fun t28 =>
    dr <|
    idv t0_1 fun t29 =>
    nc t29 fun t30 =>
    fa 1 t30 fun t31 =>
    ld t31 fun t32 =>
    idv t28 fun t33 =>
    nc t33 fun t34 =>
    fa 0 t34 fun t35 =>
    ld t35 fun t36 =>
    sm Try.prog (Builtin.delete_ #[50, 3] 0 #[t32, t36]) fun _ =>
    nc t28 fun t39 =>
    fa 0 t39 fun t40 =>
    ld t40 fun t41 =>
    sm Try.prog (Instr.buildSlice 32 1 #[(0, t41)]) fun t42 =>
    sm Try.prog (Builtin.append_ #[32, 32] 32 #[t5, t42]) fun t43 =>
    self2 t0_1 t1_1 t43
    ) (
    j1 t5
    )
def f12_j1 (t5_1 : Value) : M :=
  rt t5_1
def f12 (t0 t1 : Value) : M :=
  jn (fun (j1 : Value → M) =>
    lo (fun _ _ _ => bot) (f12_b2 j1) (fun l => l t0 t1 (.slice none 0 0))
    ) (f12_j1)
theorem s12 (t0 t1 : Value) (w : World) (Q : Value → World → Prop) (h : f12 t0 t1 w Q) : Calls Try.prog 12 #[t0, t1] w (Rt Q) := by
  refine calls_of (l := [t0, t1]) Try.func12 rfl Try.ntmps12 (Nat.le_of_ble_eq_true rfl) ?_
  unfold f12 at h
  refine wp_seq ?_
  refine L_region ?_
  refine L_as ?_
  refine L_nil ?_
  refine E_n ?_
  refine wp_seq ?_
  refine L_region ?_
  refine L_as ?_
  refine L_nil ?_
  refine E_n ?_
  refine wp_seq ?_
  refine C_join (fun (k : Value → M) (ρ : Nat → Value) => k (ρ 5)) h (fun j1 J1 h => ?_) (fun ρ w h => ?_)
  · refine C_blk ?_
    refine C_lo (fun (l : Value → Value → Value → M) (ρ : Nat → Value) => l (ρ 0) (ρ 1) (ρ 5)) h (fun ρ w h => h) (fun nx self2 L2 ρ w h => ?_)
    unfold f12_b2 at h
    refine wp_seq ?_
    refine wp_seq ?_
    refine L_region ?_
    refine L_mv ?_
    refine L_u (N_cl Try.func13 rfl nn13 (fun w Q h => s13 _ w Q h) h) ?_
    intro v w h
    refine L_u (P_gt h) ?_
    intro v w h
    refine L_mv ?_
    refine L_g (t := 10) h rfl rfl (fun c h => P_mv h c) ?_
    intro v w h
    refine L_g (t := 10) h rfl rfl (fun c h => P_nc h c) ?_
    intro v w h
    refine L_g (t := 10) h rfl rfl (fun c h => P_fa fo54_0 h c) ?_
    intro v w h
    refine L_g (t := 10) h rfl rfl (fun c h => P_ld sc52 h c) ?_
    intro v w h
    refine L_g (t := 10) h rfl rfl (fun c h => P_ia se52 h c) ?_
    intro v w h
    refine L_g (t := 10) h rfl rfl (fun c h => P_ld sc55 h c) ?_
    intro v w h
    refine L_g (t := 10) h rfl rfl (fun c h => P_nc h c) ?_
    intro v w h
    refine L_g (t := 10) h rfl rfl (fun c h => P_fa fo58_1 h c) ?_
    intro v w h
    refine L_g (t := 10) h rfl rfl (fun c h => P_ld sc2 h c) ?_
    intro v w h
    refine L_g (t := 10) h rfl rfl (fun c h => P_mv h c) ?_
    intro v w h
    refine L_g (t := 10) h rfl rfl (fun c h => P_le h c) ?_
    intro v w h
    refine L_u (P_pk h) ?_
    intro v w h
    refine L_nil ?_
    refine E_n ?_
    refine C_cnd h (fun h => ?_) (fun h => ?_)
    · refine C_skip ?_
      refine E_n ?_
      refine C_blk ?_
      refine wp_seq ?_
      refine L_region ?_
      refine L_mv ?_
      refine L_u (P_nc h) ?_
      intro v w h
      refine L_u (P_fa fo54_0 h) ?_
      intro v w h
      refine L_u (P_mif co60 h) ?_
      intro v w h
      refine L_u (N_cl Try.func24 rfl nn24 (fun w Q h => s24 _ w Q h) h) ?_
      intro v w h
      refine L_u (P_asrt co55 h) ?_
      intro v w h
      refine L_as ?_
      refine L_nil ?_
      refine E_n ?_
      refine wp_seq ?_
      refine D_region (by decide +kernel) 9 rfl ?_
      replace h := dr_e h
      refine G_p 0 rfl (by decide +kernel) (Y_mv h) ?_
      intro v h
      refine G_p 1 rfl (by decide +kernel) (Y_nc h) ?_
      intro v h
      refine G_p 2 rfl (by decide +kernel) (Y_fa fo54_1 h) ?_
      intro v h
      refine G_r _ 3 rfl (by decide +kernel) (R_ld sc50 h) ?_
      intro v h
      refine G_p 4 rfl (by decide +kernel) (Y_mv h) ?_
      intro v h
      refine G_p 5 rfl (by decide +kernel) (Y_nc h) ?_
      intro v h
      refine G_p 6 rfl (by decide +kernel) (Y_fa fo58_0 h) ?_
      intro v h
      refine G_r _ 7 rfl (by decide +kernel) (R_ld sc3 h) ?_
      intro v h
      refine G_e 8 rfl (by decide +kernel) (N_bin rfl h ?_)
      intro w h
      refine ⟨keepF_dep [7] (by decide +kernel) rfl (keepF_dep [3] (by decide +kernel) rfl keepF_nil), ?_⟩
      refine G_done (by decide +kernel) ?_
      refine E_n ?_
      refine L_region ?_
      refine L_mv ?_
      refine L_mv ?_
      refine L_u (P_nc h) ?_
      intro v w h
      refine L_u (P_fa fo58_0 h) ?_
      intro v w h
      refine L_u (P_ld sc3 h) ?_
      intro v w h
      refine L_u (N_bsl h) ?_
      intro v w h
      refine L_u (N_bi rfl h) ?_
      intro v w h
      refine L_as ?_
      refine L_nil ?_
      refine B_n ?_
      refine E_n ?_
      exact L2 _ _ h
    · refine C_exit ?_
      refine E_x ?_
      refine E_x ?_
      refine B_x ?_
      exact J1 _ _ h
  · unfold f12_j1 at h
    refine E_n ?_
    refine wp_seq ?_
    refine L_region ?_
    refine L_mv ?_
    refine L_as ?_
    refine L_nil ?_
    refine E_n ?_
    refine C_ret ?_
    show bodyPost Try.prog Try.f12 (Rt Q) .ret _ _
    exact post_tmps (ts := [4]) (.inr rfl) rfl h

/- factotum/factotumref04.SameInts -/
def f18_b2 (j1 : M) (self2 : Value → Value → Value → M) (t0_1 t1_1 t5 : Value) : M :=
  lnl t0_1 fun t13 =>
  lt .i64 t5 t13 fun t14 =>
  cnd t14 (
    dr <|
    idv t0_1 fun t17 =>
    idv t5 fun t18 =>
    ia 1 t17 t18 fun t19 =>
    ld t19 fun t20 =>
    idv t1_1 fun t21 =>
    idv t5 fun t22 =>
    ia 1 t21 t22 fun t23 =>
    ld t23 fun t24 =>
    nei .i64 t20 t24 fun t25 =>
    cnd t25 (
      rt (.bool false)
      ) (
      ad .i64 t5 (.int .i64 1) fun t16 =>
      self2 t0_1 t1_1 t16
      )
    ) (
    j1
    )
def f18_j1 : M :=
  rt (.bool true)
def f18 (t0 t1 : Value) : M :=
  lnl t0 fun t7 =>
  lnl t1 fun t9 =>
  nei .i64 t7 t9 fun t10 =>
  cnd t10 (
    rt (.bool false)
    ) (
    jn (fun (j1 : M) =>
      lo (fun _ _ _ => bot) (f18_b2 j1) (fun l => l t0 t1 (.int .i64 0))
      ) (f18_j1)
    )
theorem s18 (t0 t1 : Value) (w : World) (Q : Value → World → Prop) (h : f18 t0 t1 w Q) : Calls Try.prog 18 #[t0, t1] w (Rt Q) := by
  refine calls_of (l := [t0, t1]) Try.func18 rfl Try.ntmps18 (Nat.le_of_ble_eq_true rfl) ?_
  unfold f18 at h
  refine wp_seq ?_
  refine L_region ?_
  refine L_as ?_
  refine L_nil ?_
  refine E_n ?_
  refine wp_seq ?_
  refine wp_seq ?_
  refine L_region ?_
  refine L_mv ?_
  refine L_u (P_lnl is32 h) ?_
  intro v w h
  refine L_mv ?_
  refine L_u (P_lnl is32 h) ?_
  intro v w h
  refine L_u (P_nei h) ?_
  intro v w h
  refine L_nil ?_
  refine E_n ?_
  refine C_cnd h (fun h => ?_) (fun h => ?_)
  · refine wp_seq ?_
    refine L_region ?_
    refine L_as ?_
    refine L_nil ?_
    refine E_n ?_
    refine C_ret ?_
    show bodyPost Try.prog Try.f18 (Rt Q) .ret _ _
    exact post_tmps (ts := [4]) (.inr rfl) rfl h
  · refine C_skip ?_
    refine E_n ?_
    refine wp_seq ?_
    refine wp_seq ?_
    refine L_region ?_
    refine L_as ?_
    refine L_nil ?_
    refine E_n ?_
    refine C_join (fun (k : M) (ρ : Nat → Value) => k) h (fun j1 J1 h => ?_) (fun ρ w h => ?_)
    · refine C_blk ?_
      refine C_lo (fun (l : Value → Value → Value → M) (ρ : Nat → Value) => l (ρ 0) (ρ 1) (ρ 5)) h (fun ρ w h => h) (fun nx self2 L2 ρ w h => ?_)
      unfold f18_b2 at h
      refine wp_seq ?_
      refine wp_seq ?_
      refine L_region ?_
      refine L_mv ?_
      refine L_mv ?_
      refine L_u (P_lnl is32 h) ?_
      intro v w h
      refine L_u (P_lt h) ?_
      intro v w h
      refine L_nil ?_
      refine E_n ?_
      refine C_cnd h (fun h => ?_) (fun h => ?_)
      · refine C_skip ?_
        refine E_n ?_
        refine wp_seq ?_
        refine C_blk ?_
        refine wp_seq ?_
        refine D_region (by decide +kernel) 9 rfl ?_
        replace h := dr_e h
        refine G_p 0 rfl (by decide +kernel) (Y_mv h) ?_
        intro v h
        refine G_p 1 rfl (by decide +kernel) (Y_mv h) ?_
        intro v h
        refine G_p 2 rfl (by decide +kernel) (Y_ia se32 h) ?_
        intro v h
        refine G_r _ 3 rfl (by decide +kernel) (R_ld sc3 h) ?_
        intro v h
        refine G_p 4 rfl (by decide +kernel) (Y_mv h) ?_
        intro v h
        refine G_p 5 rfl (by decide +kernel) (Y_mv h) ?_
        intro v h
        refine G_p 6 rfl (by decide +kernel) (Y_ia se32 h) ?_
        intro v h
        refine G_r _ 7 rfl (by decide +kernel) (R_ld sc3 h) ?_
        intro v h
        refine G_p 8 rfl (by decide +kernel) (Y_nei h) ?_
        intro v h
        refine G_done (by decide +kernel) ?_
        refine E_n ?_
        refine C_cnd h (fun h => ?_) (fun h => ?_)
        · refine wp_seq ?_
          refine L_region ?_
          refine L_as ?_
          refine L_nil ?_
          refine E_n ?_
          refine C_ret ?_
          show bodyPost Try.prog Try.f18 (Rt Q) .ret _ _
          exact post_tmps (ts := [4]) (.inr rfl) rfl h
        · refine C_skip ?_
          refine B_n ?_
          refine E_n ?_
          refine L_region ?_
          refine L_mv ?_
          refine L_u (P_ad h) ?_
          intro v w h
          refine L_as ?_
          refine L_nil ?_
          refine E_n ?_
          exact L2 _ _ h
      · refine C_exit ?_
        refine E_x ?_
        refine E_x ?_
        refine B_x ?_
        exact J1 _ _ h
    · unfold f18_j1 at h
      refine E_n ?_
      refine wp_seq ?_
      refine L_region ?_
      refine L_as ?_
      refine L_nil ?_
      refine E_n ?_
      refine C_ret ?_
      show bodyPost Try.prog Try.f18 (Rt Q) .ret _ _
      exact post_tmps (ts := [4]) (.inr rfl) rfl h

/- factotum/factotumlaw18.lives -/
def f7 : M :=
  cl (f9) fun t2 =>
  smr Try.prog (do eqGuard .eql 25 (.tmp 3) (.const (.pointer none)) t2 (.pointer none); binOp .eql 25 t2 (.pointer none)) fun t4 =>
  cnd t4 (
    rt (.bool false)
    ) (
    cl (f10 t2 (.int .i64 1) (.int .i64 5)) fun t6 =>
    cl (f10 t2 (.int .i64 2) (.int .i64 3)) fun t8 =>
    cl (f12 t2 (.int .i64 4)) fun t10 =>
    sm Try.prog (Instr.buildSlice 32 1 #[(0, (.int .i64 2))]) fun t11 =>
    cl (f18 t10 t11) fun t12 =>
    gd t12 true (idv t2) fun t14 =>
    gd t12 true (cl (f12 t14 (.int .i64 9))) fun t15 =>
    gd t12 true (sm Try.prog (Instr.buildSlice 32 1 #[(0, (.int .i64 1))])) fun t16 =>
    gd t12 true (cl (f18 t15 t16)) fun t17 =>
    pk t12 t17 (.bool false) fun t18 =>
    gd t18 true (idv t2) fun t20 =>
    gd t18 true (cl (f13 t20)) fun t21 =>
    gd t18 true (eqi .i64 t21 (.int .i64 0)) fun t22 =>
    pk t18 t22 (.bool false) fun t23 =>
    rt t23
    )
theorem s7 (w : World) (Q : Value → World → Prop) (h : f7 w Q) : Calls Try.prog 7 #[] w (Rt Q) := by
  refine calls_of (l := []) Try.func7 rfl Try.ntmps7 (Nat.le_of_ble_eq_true rfl) ?_
  unfold f7 at h
  refine wp_seq ?_
  refine L_region ?_
  refine L_as ?_
  refine L_nil ?_
  refine E_n ?_
  refine wp_seq ?_
  refine L_region ?_
  refine L_u (N_cl Try.func9 rfl nn9 (fun w Q h => s9 w Q h) h) ?_
  intro v w h
  refine L_as ?_
  refine L_nil ?_
  refine E_n ?_
  refine wp_seq ?_
  refine wp_seq ?_
  refine L_region ?_
  refine L_mv ?_
  refine L_u (P_smr rfl h) ?_
  intro v w h
  refine L_nil ?_
  refine E_n ?_
  refine C_cnd h (fun h => ?_) (fun h => ?_)
  · refine wp_seq ?_
    refine L_region ?_
    refine L_as ?_
    refine L_nil ?_
    refine E_n ?_
    refine C_ret ?_
    show bodyPost Try.prog Try.f7 (Rt Q) .ret _ _
    exact post_tmps (ts := [0]) (.inr rfl) rfl h
  · refine C_skip ?_
    refine E_n ?_
    refine wp_seq ?_
    refine L_region ?_
    refine L_mv ?_
    refine L_u (N_cl Try.func10 rfl nn10 (fun w Q h => s10 _ _ _ w Q h) h) ?_
    intro v w h
    refine L_nil ?_
    refine E_n ?_
    refine wp_seq ?_
    refine L_region ?_
    refine L_mv ?_
    refine L_u (N_cl Try.func10 rfl nn10 (fun w Q h => s10 _ _ _ w Q h) h) ?_
    intro v w h
    refine L_nil ?_
    refine E_n ?_
    refine wp_seq ?_
    refine L_region ?_
    refine L_mv ?_
    refine L_u (N_cl Try.func12 rfl nn12 (fun w Q h => s12 _ _ w Q h) h) ?_
    intro v w h
    refine L_u (N_bsl h) ?_
    intro v w h
    refine L_u (N_cl Try.func18 rfl nn18 (fun w Q h => s18 _ _ w Q h) h) ?_
    intro v w h
    refine L_mv ?_
    refine L_g (t := 13) h rfl rfl (fun c h => P_mv h c) ?_
    intro v w h
    refine L_g (t := 13) h rfl rfl (fun c h => N_cl Try.func12 rfl nn12 (fun w Q h => s12 _ _ w Q h) h c) ?_
    intro v w h
    refine L_g (t := 13) h rfl rfl (fun c h => N_bsl h c) ?_
    intro v w h
    refine L_g (t := 13) h rfl rfl (fun c h => N_cl Try.func18 rfl nn18 (fun w Q h => s18 _ _ w Q h) h c) ?_
    intro v w h
    refine L_u (P_pk h) ?_
    intro v w h
    refine L_mv ?_
    refine L_g (t := 19) h rfl rfl (fun c h => P_mv h c) ?_
    intro v w h
    refine L_g (t := 19) h rfl rfl (fun c h => N_cl Try.func13 rfl nn13 (fun w Q h => s13 _ w Q h) h c) ?_
    intro v w h
    refine L_g (t := 19) h rfl rfl (fun c h => P_eqi h c) ?_
    intro v w h
    refine L_u (P_pk h) ?_
    intro v w h
    refine L_as ?_
    refine L_nil ?_
    refine E_n ?_
    refine C_ret ?_
    show bodyPost Try.prog Try.f7 (Rt Q) .ret _ _
    exact post_tmps (ts := [0]) (.inr rfl) rfl h

/- factotum/factotumlaw18.early -/
def f8 (t0 : Value) : M :=
  lnl t0 fun t5 =>
  mnm t5 (.int .i64 300) fun t6 =>
  sll 3 t0 none (some t6) fun t7 =>
  rt t7
theorem s8 (t0 : Value) (w : World) (Q : Value → World → Prop) (h : f8 t0 w Q) : Calls Try.prog 8 #[t0] w (Rt Q) := by
  refine calls_of (l := [t0]) Try.func8 rfl Try.ntmps8 (Nat.le_of_ble_eq_true rfl) ?_
  unfold f8 at h
  refine wp_seq ?_
  refine L_region ?_
  refine L_as ?_
  refine L_nil ?_
  refine E_n ?_
  refine wp_seq ?_
  refine L_region ?_
  refine L_mv ?_
  refine L_mv ?_
  refine L_u (P_lnl is22 h) ?_
  intro v w h
  refine L_u (P_mnm (t := 0) h) ?_
  intro v w h
  refine L_u (P_sll se22 h) ?_
  intro v w h
  refine L_as ?_
  refine L_nil ?_
  refine E_n ?_
  refine C_ret ?_
  show bodyPost Try.prog Try.f8 (Rt Q) .ret _ _
  exact post_tmps (ts := [2]) (.inr rfl) rfl h

/- (*factotum/timers.Timers).Next -/
def f11 (t0 : Value) : M :=
  cl (f13 t0) fun t6 =>
  eqi .i64 t6 (.int .i64 0) fun t7 =>
  cnd t7 (
    rt (.tuple #[(.int .i64 0), (.int .i64 0), (.bool false)])
    ) (
    dr <|
    idv t0 fun t8 =>
    nc t8 fun t9 =>
    fa 0 t9 fun t10 =>
    ld t10 fun t11 =>
    ia 1 t11 (.int .i64 0) fun t12 =>
    ld t12 fun t13 =>
    nc t13 fun t14 =>
    fa 1 t14 fun t15 =>
    ld t15 fun t16 =>
    idv t0 fun t17 =>
    nc t17 fun t18 =>
    fa 0 t18 fun t19 =>
    ld t19 fun t20 =>
    ia 1 t20 (.int .i64 0) fun t21 =>
    ld t21 fun t22 =>
    nc t22 fun t23 =>
    fa 0 t23 fun t24 =>
    ld t24 fun t25 =>
    idv t16 fun t2 =>
    idv t25 fun t3 =>
    idv (.bool true) fun t4 =>
    rt (.tuple #[t2, t3, t4])
    )
theorem s11 (t0 : Value) (w : World) (Q : Value → World → Prop) (h : f11 t0 w Q) : Calls Try.prog 11 #[t0] w (Rt Q) := by
  refine calls_of (l := [t0]) Try.func11 rfl Try.ntmps11 (Nat.le_of_ble_eq_true rfl) ?_
  unfold f11 at h
  refine wp_seq ?_
  refine L_region ?_
  refine L_as ?_
  refine L_as ?_
  refine L_as ?_
  refine L_nil ?_
  refine E_n ?_
  refine wp_seq ?_
  refine wp_seq ?_
  refine L_region ?_
  refine L_mv ?_
  refine L_u (N_cl Try.func13 rfl nn13 (fun w Q h => s13 _ w Q h) h) ?_
  intro v w h
  refine L_u (P_eqi h) ?_
  intro v w h
  refine L_nil ?_
  refine E_n ?_
  refine C_cnd h (fun h => ?_) (fun h => ?_)
  · refine wp_seq ?_
    refine L_region ?_
    refine L_as ?_
    refine L_as ?_
    refine L_as ?_
    refine L_nil ?_
    refine E_n ?_
    refine C_ret ?_
    show bodyPost Try.prog Try.f11 (Rt Q) .ret _ _
    exact post_tmps (ts := [2, 3, 4]) (.inr rfl) rfl h
  · refine C_skip ?_
    refine E_n ?_
    refine wp_seq ?_
    refine D_region (by decide +kernel) 21 rfl ?_
    replace h := dr_e h
    refine G_p 0 rfl (by decide +kernel) (Y_mv h) ?_
    intro v h
    refine G_p 1 rfl (by decide +kernel) (Y_nc h) ?_
    intro v h
    refine G_p 2 rfl (by decide +kernel) (Y_fa fo54_0 h) ?_
    intro v h
    refine G_r _ 3 rfl (by decide +kernel) (R_ld sc52 h) ?_
    intro v h
    refine G_p 4 rfl (by decide +kernel) (Y_ia se52 h) ?_
    intro v h
    refine G_r _ 5 rfl (by decide +kernel) (R_ld sc55 h) ?_
    intro v h
    refine G_p 6 rfl (by decide +kernel) (Y_nc h) ?_
    intro v h
    refine G_p 7 rfl (by decide +kernel) (Y_fa fo58_1 h) ?_
    intro v h
    refine G_r _ 8 rfl (by decide +kernel) (R_ld sc2 h) ?_
    intro v h
    refine G_p 9 rfl (by decide +kernel) (Y_mv h) ?_
    intro v h
    refine G_p 10 rfl (by decide +kernel) (Y_nc h) ?_
    intro v h
    refine G_p 11 rfl (by decide +kernel) (Y_fa fo54_0 h) ?_
    intro v h
    refine G_r _ 12 rfl (by decide +kernel) (R_ld sc52 h) ?_
    intro v h
    refine G_p 13 rfl (by decide +kernel) (Y_ia se52 h) ?_
    intro v h
    refine G_r _ 14 rfl (by decide +kernel) (R_ld sc55 h) ?_
    intro v h
    refine G_p 15 rfl (by decide +kernel) (Y_nc h) ?_
    intro v h
    refine G_p 16 rfl (by decide +kernel) (Y_fa fo58_0 h) ?_
    intro v h
    refine G_r _ 17 rfl (by decide +kernel) (R_ld sc3 h) ?_
    intro v h
    refine G_p 18 rfl (by decide +kernel) (Y_as h) ?_
    intro v h
    refine G_p 19 rfl (by decide +kernel) (Y_as h) ?_
    intro v h
    refine G_p 20 rfl (by decide +kernel) (Y_as h) ?_
    intro v h
    refine G_done (by decide +kernel) ?_
    refine E_n ?_
    refine C_ret ?_
    show bodyPost Try.prog Try.f11 (Rt Q) .ret _ _
    exact post_tmps (ts := [2, 3, 4]) (.inr rfl) rfl h

/- factotum/factotumlaw18.TimersOrder -/
def f3_b4 (j3 : Value → Value → Value → Value → Value → M) (self4 : Value → Value → Value → Value → Value → Value → M) (t0_2 t1_2 t5_1 t6_1 t7_1 t8 : Value) : M :=
  lt .i64 t8 t7_1 fun t32 =>
  cnd t32 (
    dr <|
    idv t0_2 fun t35 =>
    idv t8 fun t36 =>
    ia 3 t35 t36 fun t37 =>
    fa 1 t37 fun t38 =>
    ld t38 fun t39 =>
    idv t0_2 fun t40 =>
    idv t7_1 fun t41 =>
    ia 3 t40 t41 fun t42 =>
    fa 1 t42 fun t43 =>
    ld t43 fun t44 =>
    eqi .i64 t39 t44 fun t45 =>
    cnd t45 (
      rt (.bool true)
      ) (
      ad .i64 t8 (.int .i64 1) fun t34 =>
      self4 t0_2 t1_2 t5_1 t6_1 t7_1 t34
      )
    ) (
    j3 t0_2 t1_2 t5_1 t6_1 t7_1
    )
def f3_j3 (self2 : Value → Value → Value → Value → Value → M) (t0_3 t1_3 t5_2 t6_2 t7_2 : Value) : M :=
  ad .i64 t7_2 (.int .i64 1) fun t29 =>
  self2 t0_3 t1_3 t5_2 t6_2 t29
def f3_b2 (j1 : Value → Value → Value → Value → M) (self2 : Value → Value → Value → Value → Value → M) (t0_1 t1_1 t5 t6 t7 : Value) : M :=
  lnl t0_1 fun t26 =>
  lt .i64 t7 t26 fun t27 =>
  cnd t27 (
    jn (fun (j3 : Value → Value → Value → Value → Value → M) =>
      lo (fun _ _ _ _ _ _ => bot) (f3_b4 j3) (fun l => l t0_1 t1_1 t5 t6 t7 (.int .i64 0))
      ) (f3_j3 self2)
    ) (
    j1 t0_1 t1_1 t5 t6
    )
def f3_b6 (j5 : Value → Value → Value → Value → M) (self6 : Value → Value → Value → Value → Value → M) (t0_5 t1_5 t5_4 t6_4 t9 : Value) : M :=
  lnl t0_5 fun t48 =>
  lt .i64 t9 t48 fun t49 =>
  cnd t49 (
    dr <|
    idv t5_4 fun t52 =>
    idv t0_5 fun t53 =>
    idv t9 fun t54 =>
    ia 3 t53 t54 fun t55 =>
    fa 1 t55 fun t56 =>
    ld t56 fun t57 =>
    idv t0_5 fun t58 =>
    idv t9 fun t59 =>
    ia 3 t58 t59 fun t60 =>
    fa 2 t60 fun t61 =>
    ld t61 fun t62 =>
    cl (f10 t52 t57 t62) fun t63 =>
    lnl t0_5 fun t66 =>
    su .i64 t66 (.int .i64 1) fun t67 =>
    su .i64 t67 t9 fun t69 =>
    ia 3 t0_5 t69 fun t70 =>
    ldn 3 t70 fun t71 =>
    al 28 #[(.int .i64 0), (.int .i64 0), (.int .i64 0)] fun t10 =>
    stn 3 t10 t71 <|
    fa 1 t10 fun t73 =>
    ld t73 fun t74 =>
    fa 2 t10 fun t75 =>
    ld t75 fun t76 =>
    cl (f10 t6_4 t74 t76) fun t77 =>
    ad .i64 t9 (.int .i64 1) fun t51 =>
    self6 t0_5 t1_5 t5_4 t6_4 t51
    ) (
    j5 t0_5 t1_5 t5_4 t6_4
    )
def f3_b8 (j7 : Value → Value → Value → Value → M) (self8 : Value → Value → Value → Value → Value → Value → M) (t0_7 t1_7 t5_6 t6_6 t11 t12 : Value) : M :=
  lnl t0_7 fun t80 =>
  lt .i64 t12 t80 fun t81 =>
  cnd t81 (
    cl (f11 t5_6) fun t86 =>
    ex 0 t86 fun t87 =>
    ex 1 t86 fun t88 =>
    ex 2 t86 fun t89 =>
    nt t89 fun t91 =>
    gd t91 false (idv t12) fun t93 =>
    gd t91 false (gt .i64 t93 (.int .i64 0)) fun t94 =>
    gd t91 false (idv t94) fun t95 =>
    gd t95 true (idv t87) fun t96 =>
    gd t95 true (idv t11) fun t97 =>
    gd t95 true (lt .i64 t96 t97) fun t98 =>
    gd t91 false (pk t95 t98 (.bool false)) fun t99 =>
    pk t91 (.bool true) t99 fun t100 =>
    cnd t100 (
      rt (.bool false)
      ) (
      gt .i64 t87 t1_7 fun t104 =>
      cnd t104 (
        j7 t0_7 t1_7 t5_6 t6_6
        ) (
        cl (f12 t5_6 t87) fun t107 =>
        lnl t107 fun t108 =>
        eqi .i64 t108 (.int .i64 0) fun t109 =>
        cnd t109 (
          rt (.bool false)
          ) (
          cl (f13 t5_6) fun t111 =>
          eqi .i64 t111 (.int .i64 0) fun t112 =>
          cnd t112 (
            j7 t0_7 t1_7 t5_6 t6_6
            ) (
            ad .i64 t12 (.int .i64 1) fun t83 =>
            self8 t0_7 t1_7 t5_6 t6_6 t87 t83
            )
          )
        )
      )
    ) (
    j7 t0_7 t1_7 t5_6 t6_6
    )
def f3_j7 (t0_8 t1_8 t5_7 t6_7 : Value) : M :=
  cl (f12 t6_7 t1_8) fun t115 =>
  cl (f13 t6_7) fun t117 =>
  lnl t115 fun t119 =>
  ad .i64 t119 t117 fun t121 =>
  lnl t0_8 fun t123 =>
  eqi .i64 t121 t123 fun t124 =>
  gd t124 true (idv t5_7) fun t126 =>
  gd t124 true (cl (f13 t126)) fun t127 =>
  gd t124 true (idv t117) fun t128 =>
  gd t124 true (eqi .i64 t127 t128) fun t129 =>
  pk t124 t129 (.bool false) fun t130 =>
  rt t130
def f3_j5 (t0_6 t1_6 t5_5 t6_5 : Value) : M :=
  jn (fun (j7 : Value → Value → Value → Value → M) =>
    lo (fun _ _ _ _ _ _ => bot) (f3_b8 j7) (fun l => l t0_6 t1_6 t5_5 t6_5 (.int .i64 0) (.int .i64 0))
    ) (f3_j7)
def f3_j1 (t0_4 t1_4 t5_3 t6_3 : Value) : M :=
  jn (fun (j5 : Value → Value → Value → Value → M) =>
    lo (fun _ _ _ _ _ => bot) (f3_b6 j5) (fun l => l t0_4 t1_4 t5_3 t6_3 (.int .i64 0))
    ) (f3_j5)
def f3 (t0 t1 : Value) : M :=
  cl (f7) fun t18 =>
  nt t18 fun t19 =>
  cnd t19 (
    rt (.bool false)
    ) (
    cl (f8 t0) fun t21 =>
    cl (f9) fun t22 =>
    cl (f9) fun t23 =>
    jn (fun (j1 : Value → Value → Value → Value → M) =>
      lo (fun _ _ _ _ _ => bot) (f3_b2 j1) (fun l => l t21 t1 t22 t23 (.int .i64 0))
      ) (f3_j1)
    )
theorem s3 (t0 t1 : Value) (w : World) (Q : Value → World → Prop) (h : f3 t0 t1 w Q) : Calls Try.prog 3 #[t0, t1] w (Rt Q) := by
  refine calls_of (l := [t0, t1]) Try.func3 rfl Try.ntmps3 (Nat.le_of_ble_eq_true rfl) ?_
  unfold f3 at h
  refine wp_seq ?_
  refine L_region ?_
  refine L_as ?_
  refine L_nil ?_
  refine E_n ?_
  refine wp_seq ?_
  refine wp_seq ?_
  refine L_region ?_
  refine L_u (N_cl Try.func7 rfl nn7 (fun w Q h => s7 w Q h) h) ?_
  intro v w h
  refine L_u (P_nt h) ?_
  intro v w h
  refine L_nil ?_
  refine E_n ?_
  refine C_cnd h (fun h => ?_) (fun h => ?_)
  · refine wp_seq ?_
    refine L_region ?_
    refine L_as ?_
    refine L_nil ?_
    refine E_n ?_
    refine C_ret ?_
    show bodyPost Try.prog Try.f3 (Rt Q) .ret _ _
    exact post_tmps (ts := [4]) (.inr rfl) rfl h
  · refine C_skip ?_
    refine E_n ?_
    refine wp_seq ?_
    refine L_region ?_
    refine L_mv ?_
    refine L_u (N_cl Try.func8 rfl nn8 (fun w Q h => s8 _ w Q h) h) ?_
    intro v w h
    refine L_as ?_
    refine L_nil ?_
    refine E_n ?_
    refine wp_seq ?_
    refine L_region ?_
    refine L_u (N_cl Try.func9 rfl nn9 (fun w Q h => s9 w Q h) h) ?_
    intro v w h
    refine L_u (N_cl Try.func9 rfl nn9 (fun w Q h => s9 w Q h) h) ?_
    intro v w h
    refine L_as ?_
    refine L_as ?_
    refine L_nil ?_
    refine E_n ?_
    refine wp_seq ?_
    refine wp_seq ?_
    refine L_region ?_
    refine L_as ?_
    refine L_nil ?_
    refine E_n ?_
    refine C_join (fun (k : Value → Value → Value → Value → M) (ρ : Nat → Value) => k (ρ 0) (ρ 1) (ρ 5) (ρ 6)) h (fun j1 J1 h => ?_) (fun ρ w h => ?_)
    · refine C_blk ?_
      refine C_lo (fun (l : Value → Value → Value → Value → Value → M) (ρ : Nat → Value) => l (ρ 0) (ρ 1) (ρ 5) (ρ 6) (ρ 7)) h (fun ρ w h => h) (fun nx self2 L2 ρ w h => ?_)
      unfold f3_b2 at h
      refine wp_seq ?_
      refine wp_seq ?_
      refine L_region ?_
      refine L_mv ?_
      refine L_mv ?_
      refine L_u (P_lnl is22 h) ?_
      intro v w h
      refine L_u (P_lt h) ?_
      intro v w h
      refine L_nil ?_
      refine E_n ?_
      refine C_cnd h (fun h => ?_) (fun h => ?_)
      · refine C_skip ?_
        refine E_n ?_
        refine wp_seq ?_
        refine C_blk ?_
        refine wp_seq ?_
        refine L_region ?_
        refine L_as ?_
        refine L_nil ?_
        refine E_n ?_
        refine C_join (fun (k : Value → Value → Value → Value → Value → M) (ρ : Nat → Value) => k (ρ 0) (ρ 1) (ρ 5) (ρ 6) (ρ 7)) h (fun j3 J3 h => ?_) (fun ρ w h => ?_)
        · refine C_blk ?_
          refine C_lo (fun (l : Value → Value → Value → Value → Value → Value → M) (ρ : Nat → Value) => l (ρ 0) (ρ 1) (ρ 5) (ρ 6) (ρ 7) (ρ 8)) h (fun ρ w h => h) (fun nx self4 L4 ρ w h => ?_)
          unfold f3_b4 at h
          refine wp_seq ?_
          refine wp_seq ?_
          refine L_region ?_
          refine L_mv ?_
          refine L_mv ?_
          refine L_u (P_lt h) ?_
          intro v w h
          refine L_nil ?_
          refine E_n ?_
          refine C_cnd h (fun h => ?_) (fun h => ?_)
          · refine C_skip ?_
            refine E_n ?_
            refine wp_seq ?_
            refine C_blk ?_
            refine wp_seq ?_
            refine D_region (by decide +kernel) 11 rfl ?_
            replace h := dr_e h
            refine G_p 0 rfl (by decide +kernel) (Y_mv h) ?_
            intro v h
            refine G_p 1 rfl (by decide +kernel) (Y_mv h) ?_
            intro v h
            refine G_p 2 rfl (by decide +kernel) (Y_ia se22 h) ?_
            intro v h
            refine G_p 3 rfl (by decide +kernel) (Y_fa fo28_1 h) ?_
            intro v h
            refine G_r _ 4 rfl (by decide +kernel) (R_ld sc3 h) ?_
            intro v h
            refine G_p 5 rfl (by decide +kernel) (Y_mv h) ?_
            intro v h
            refine G_p 6 rfl (by decide +kernel) (Y_mv h) ?_
            intro v h
            refine G_p 7 rfl (by decide +kernel) (Y_ia se22 h) ?_
            intro v h
            refine G_p 8 rfl (by decide +kernel) (Y_fa fo28_1 h) ?_
            intro v h
            refine G_r _ 9 rfl (by decide +kernel) (R_ld sc3 h) ?_
            intro v h
            refine G_p 10 rfl (by decide +kernel) (Y_eqi h) ?_
            intro v h
            refine G_done (by decide +kernel) ?_
            refine E_n ?_
            refine C_cnd h (fun h => ?_) (fun h => ?_)
            · refine wp_seq ?_
              refine L_region ?_
              refine L_as ?_
              refine L_nil ?_
              refine E_n ?_
              refine C_ret ?_
              show bodyPost Try.prog Try.f3 (Rt Q) .ret _ _
              exact post_tmps (ts := [4]) (.inr rfl) rfl h
            · refine C_skip ?_
              refine B_n ?_
              refine E_n ?_
              refine L_region ?_
              refine L_mv ?_
              refine L_u (P_ad h) ?_
              intro v w h
              refine L_as ?_
              refine L_nil ?_
              refine E_n ?_
              exact L4 _ _ h
          · refine C_exit ?_
            refine E_x ?_
            refine E_x ?_
            refine B_x ?_
            exact J3 _ _ h
        · unfold f3_j3 at h
          refine B_n ?_
          refine E_n ?_
          refine L_region ?_
          refine L_mv ?_
          refine L_u (P_ad h) ?_
          intro v w h
          refine L_as ?_
          refine L_nil ?_
          refine E_n ?_
          exact L2 _ _ h
      · refine C_exit ?_
        refine E_x ?_
        refine E_x ?_
        refine B_x ?_
        exact J1 _ _ h
    · unfold f3_j1 at h
      refine E_n ?_
      refine wp_seq ?_
      refine wp_seq ?_
      refine L_region ?_
      refine L_as ?_
      refine L_nil ?_
      refine E_n ?_
      refine C_join (fun (k : Value → Value → Value → Value → M) (ρ : Nat → Value) => k (ρ 0) (ρ 1) (ρ 5) (ρ 6)) h (fun j5 J5 h => ?_) (fun ρ w h => ?_)
      · refine C_blk ?_
        refine C_lo (fun (l : Value → Value → Value → Value → Value → M) (ρ : Nat → Value) => l (ρ 0) (ρ 1) (ρ 5) (ρ 6) (ρ 9)) h (fun ρ w h => h) (fun nx self6 L6 ρ w h => ?_)
        unfold f3_b6 at h
        refine wp_seq ?_
        refine wp_seq ?_
        refine L_region ?_
        refine L_mv ?_
        refine L_mv ?_
        refine L_u (P_lnl is22 h) ?_
        intro v w h
        refine L_u (P_lt h) ?_
        intro v w h
        refine L_nil ?_
        refine E_n ?_
        refine C_cnd h (fun h => ?_) (fun h => ?_)
        · refine C_skip ?_
          refine E_n ?_
          refine wp_seq ?_
          refine C_blk ?_
          refine wp_seq ?_
          refine D_region (by decide +kernel) 12 rfl ?_
          replace h := dr_e h
          refine G_p 0 rfl (by decide +kernel) (Y_mv h) ?_
          intro v h
          refine G_p 1 rfl (by decide +kernel) (Y_mv h) ?_
          intro v h
          refine G_p 2 rfl (by decide +kernel) (Y_mv h) ?_
          intro v h
          refine G_p 3 rfl (by decide +kernel) (Y_ia se22 h) ?_
          intro v h
          refine G_p 4 rfl (by decide +kernel) (Y_fa fo28_1 h) ?_
          intro v h
          refine G_r _ 5 rfl (by decide +kernel) (R_ld sc3 h) ?_
          intro v h
          refine G_p 6 rfl (by decide +kernel) (Y_mv h) ?_
          intro v h
          refine G_p 7 rfl (by decide +kernel) (Y_mv h) ?_
          intro v h
          refine G_p 8 rfl (by decide +kernel) (Y_ia se22 h) ?_
          intro v h
          refine G_p 9 rfl (by decide +kernel) (Y_fa fo28_2 h) ?_
          intro v h
          refine G_r _ 10 rfl (by decide +kernel) (R_ld sc2 h) ?_
          intro v h
          refine G_e 11 rfl (by decide +kernel) (N_cl Try.func10 rfl nn10 (fun w Q h => s10 _ _ _ w Q h) h ?_)
          intro v w h
          refine ⟨keepF_dep [10] (by decide +kernel) rfl (keepF_dep [5] (by decide +kernel) rfl keepF_nil), ?_⟩
          refine G_done (by decide +kernel) ?_
          refine E_n ?_
          refine wp_seq ?_
          refine L_region ?_
          refine L_mv ?_
          refine L_mv ?_
          refine L_u (P_lnl is22 h) ?_
          intro v w h
          refine L_u (P_su h) ?_
          intro v w h
          refine L_mv ?_
          refine L_u (P_su h) ?_
          intro v w h
          refine L_u (P_ia se22 h) ?_
          intro v w h
          refine L_u (P_ldn ag28 h) ?_
          intro v w h
          refine L_u (P_al ze28 rfl h) ?_
          intro v w h
          refine L_u (P_stn ag28 h) ?_
          intro w h
          refine L_nil ?_
          refine E_n ?_
          refine L_region ?_
          refine L_mv ?_
          refine L_u (P_fa fo28_1 h) ?_
          intro v w h
          refine L_u (P_ld sc3 h) ?_
          intro v w h
          refine L_u (P_fa fo28_2 h) ?_
          intro v w h
          refine L_u (P_ld sc2 h) ?_
          intro v w h
          refine L_u (N_cl Try.func10 rfl nn10 (fun w Q h => s10 _ _ _ w Q h) h) ?_
          intro v w h
          refine L_nil ?_
          refine B_n ?_
          refine E_n ?_
          refine L_region ?_
          refine L_mv ?_
          refine L_u (P_ad h) ?_
          intro v w h
          refine L_as ?_
          refine L_nil ?_
          refine E_n ?_
          exact L6 _ _ h
        · refine C_exit ?_
          refine E_x ?_
          refine E_x ?_
          refine B_x ?_
          exact J5 _ _ h
      · unfold f3_j5 at h
        refine E_n ?_
        refine wp_seq ?_
        refine L_region ?_
        refine L_as ?_
        refine L_nil ?_
        refine E_n ?_
        refine wp_seq ?_
        refine wp_seq ?_
        refine L_region ?_
        refine L_as ?_
        refine L_nil ?_
        refine E_n ?_
        refine C_join (fun (k : Value → Value → Value → Value → M) (ρ : Nat → Value) => k (ρ 0) (ρ 1) (ρ 5) (ρ 6)) h (fun j7 J7 h => ?_) (fun ρ w h => ?_)
        · refine C_blk ?_
          refine C_lo (fun (l : Value → Value → Value → Value → Value → Value → M) (ρ : Nat → Value) => l (ρ 0) (ρ 1) (ρ 5) (ρ 6) (ρ 11) (ρ 12)) h (fun ρ w h => h) (fun nx self8 L8 ρ w h => ?_)
          unfold f3_b8 at h
          refine wp_seq ?_
          refine wp_seq ?_
          refine L_region ?_
          refine L_mv ?_
          refine L_mv ?_
          refine L_u (P_lnl is22 h) ?_
          intro v w h
          refine L_u (P_lt h) ?_
          intro v w h
          refine L_nil ?_
          refine E_n ?_
          refine C_cnd h (fun h => ?_) (fun h => ?_)
          · refine C_skip ?_
            refine E_n ?_
            refine wp_seq ?_
            refine C_blk ?_
            refine wp_seq ?_
            refine L_region ?_
            refine L_mv ?_
            refine L_u (N_cl Try.func11 rfl nn11 (fun w Q h => s11 _ w Q h) h) ?_
            intro v w h
            refine L_mv ?_
            refine L_u (P_ex h) ?_
            intro v w h
            refine L_u (P_ex h) ?_
            intro v w h
            refine L_u (P_ex h) ?_
            intro v w h
            refine L_as ?_
            refine L_as ?_
            refine L_as ?_
            refine L_nil ?_
            refine E_n ?_
            refine wp_seq ?_
            refine wp_seq ?_
            refine L_region ?_
            refine L_mv ?_
            refine L_u (P_nt h) ?_
            intro v w h
            refine L_mv ?_
            refine L_g (t := 92) h rfl rfl (fun c h => P_mv h c) ?_
            intro v w h
            refine L_g (t := 92) h rfl rfl (fun c h => P_gt h c) ?_
            intro v w h
            refine L_g (t := 92) h rfl rfl (fun c h => P_mv h c) ?_
            intro v w h
            refine L_g (t := 95) h rfl rfl (fun c h => P_mv h c) ?_
            intro v w h
            refine L_g (t := 95) h rfl rfl (fun c h => P_mv h c) ?_
            intro v w h
            refine L_g (t := 95) h rfl rfl (fun c h => P_lt h c) ?_
            intro v w h
            refine L_g (t := 92) h rfl rfl (fun c h => P_pk h c) ?_
            intro v w h
            refine L_u (P_pk h) ?_
            intro v w h
            refine L_nil ?_
            refine E_n ?_
            refine C_cnd h (fun h => ?_) (fun h => ?_)
            · refine wp_seq ?_
              refine L_region ?_
              refine L_as ?_
              refine L_nil ?_
              refine E_n ?_
              refine C_ret ?_
              show bodyPost Try.prog Try.f3 (Rt Q) .ret _ _
              exact post_tmps (ts := [4]) (.inr rfl) rfl h
            · refine C_skip ?_
              refine E_n ?_
              refine wp_seq ?_
              refine L_region ?_
              refine L_mv ?_
              refine L_as ?_
              refine L_nil ?_
              refine E_n ?_
              refine wp_seq ?_
              refine wp_seq ?_
              refine L_region ?_
              refine L_mv ?_
              refine L_mv ?_
              refine L_u (P_gt h) ?_
              intro v w h
              refine L_nil ?_
              refine E_n ?_
              refine C_cnd h (fun h => ?_) (fun h => ?_)
              · refine C_exit ?_
                refine E_x ?_
                refine B_o rfl ?_
                refine E_x ?_
                refine E_x ?_
                refine B_x ?_
                exact J7 _ _ h
              · refine C_skip ?_
                refine E_n ?_
                refine wp_seq ?_
                refine wp_seq ?_
                refine L_region ?_
                refine L_mv ?_
                refine L_mv ?_
                refine L_u (N_cl Try.func12 rfl nn12 (fun w Q h => s12 _ _ w Q h) h) ?_
                intro v w h
                refine L_u (P_lnl is32 h) ?_
                intro v w h
                refine L_u (P_eqi h) ?_
                intro v w h
                refine L_nil ?_
                refine E_n ?_
                refine C_cnd h (fun h => ?_) (fun h => ?_)
                · refine wp_seq ?_
                  refine L_region ?_
                  refine L_as ?_
                  refine L_nil ?_
                  refine E_n ?_
                  refine C_ret ?_
                  show bodyPost Try.prog Try.f3 (Rt Q) .ret _ _
                  exact post_tmps (ts := [4]) (.inr rfl) rfl h
                · refine C_skip ?_
                  refine E_n ?_
                  refine wp_seq ?_
                  refine L_region ?_
                  refine L_mv ?_
                  refine L_u (N_cl Try.func13 rfl nn13 (fun w Q h => s13 _ w Q h) h) ?_
                  intro v w h
                  refine L_u (P_eqi h) ?_
                  intro v w h
                  refine L_nil ?_
                  refine E_n ?_
                  refine C_cnd h (fun h => ?_) (fun h => ?_)
                  · refine C_exit ?_
                    refine B_o rfl ?_
                    refine E_x ?_
                    refine E_x ?_
                    refine B_x ?_
                    exact J7 _ _ h
                  · refine C_skip ?_
                    refine B_n ?_
                    refine E_n ?_
                    refine L_region ?_
                    refine L_mv ?_
                    refine L_u (P_ad h) ?_
                    intro v w h
                    refine L_as ?_
                    refine L_nil ?_
                    refine E_n ?_
                    exact L8 _ _ h
          · refine C_exit ?_
            refine E_x ?_
            refine E_x ?_
            refine B_x ?_
            exact J7 _ _ h
        · unfold f3_j7 at h
          refine E_n ?_
          refine wp_seq ?_
          refine L_region ?_
          refine L_mv ?_
          refine L_mv ?_
          refine L_u (N_cl Try.func12 rfl nn12 (fun w Q h => s12 _ _ w Q h) h) ?_
          intro v w h
          refine L_mv ?_
          refine L_u (N_cl Try.func13 rfl nn13 (fun w Q h => s13 _ w Q h) h) ?_
          intro v w h
          refine L_as ?_
          refine L_as ?_
          refine L_nil ?_
          refine E_n ?_
          refine wp_seq ?_
          refine L_region ?_
          refine L_mv ?_
          refine L_u (P_lnl is32 h) ?_
          intro v w h
          refine L_mv ?_
          refine L_u (P_ad h) ?_
          intro v w h
          refine L_mv ?_
          refine L_u (P_lnl is22 h) ?_
          intro v w h
          refine L_u (P_eqi h) ?_
          intro v w h
          refine L_mv ?_
          refine L_g (t := 125) h rfl rfl (fun c h => P_mv h c) ?_
          intro v w h
          refine L_g (t := 125) h rfl rfl (fun c h => N_cl Try.func13 rfl nn13 (fun w Q h => s13 _ w Q h) h c) ?_
          intro v w h
          refine L_g (t := 125) h rfl rfl (fun c h => P_mv h c) ?_
          intro v w h
          refine L_g (t := 125) h rfl rfl (fun c h => P_eqi h c) ?_
          intro v w h
          refine L_u (P_pk h) ?_
          intro v w h
          refine L_as ?_
          refine L_nil ?_
          refine E_n ?_
          refine C_ret ?_
          show bodyPost Try.prog Try.f3 (Rt Q) .ret _ _
          exact post_tmps (ts := [4]) (.inr rfl) rfl h

/- (factotum/factotumlaw18.Op).kind -/
def f14 (t0 : Value) : M :=
  bx 28 t0 fun t1 =>
  fa 0 t1 fun t3 =>
  ld t3 fun t4 =>
  cv .u64 t4 fun t5 =>
  re .u64 t5 (.int .u64 3) fun t6 =>
  cv .i64 t6 fun t7 =>
  rt t7
theorem s14 (t0 : Value) (w : World) (Q : Value → World → Prop) (h : f14 t0 w Q) : Calls Try.prog 14 #[t0] w (Rt Q) := by
  refine calls_of (l := [t0]) Try.func14 rfl Try.ntmps14 (Nat.le_of_ble_eq_true rfl) ?_
  unfold f14 at h
  refine wp_seq ?_
  refine L_region ?_
  refine L_u (P_bx h) ?_
  intro v w h
  refine L_as ?_
  refine L_nil ?_
  refine E_n ?_
  refine wp_seq ?_
  refine L_region ?_
  refine L_u (P_fa fo28_0 h) ?_
  intro v w h
  refine L_u (P_ld sc3 h) ?_
  intro v w h
  refine L_u (P_cv ai3 in63 h) ?_
  intro v w h
  refine L_u (P_re h) ?_
  intro v w h
  refine L_u (P_cv ai63 in3 h) ?_
  intro v w h
  refine L_as ?_
  refine L_nil ?_
  refine E_n ?_
  refine C_ret ?_
  show bodyPost Try.prog Try.f14 (Rt Q) .ret _ _
  exact post_tmps (ts := [2]) (.inr rfl) rfl h

/- container/heap.Remove -/
def f25_j1 (t0_1 : Value) : M :=
  ci Try.prog t0_1 "Pop" #[] fun t25 =>
  rt t25
def f25 (t0 t1 : Value) : M :=
  ci Try.prog t0 "Len" #[] fun t7 =>
  su .i64 t7 (.int .i64 1) fun t8 =>
  nei .i64 t8 t1 fun t11 =>
  jn (fun (j1 : Value → M) =>
    cnd t11 (
      ci Try.prog t0 "Swap" #[t1, t8] fun t15 =>
      cl (f26 t0 t1 t8) fun t19 =>
      nt t19 fun t20 =>
      cnd t20 (
        cl (f27 t0 t1) fun t23 =>
        j1 t0
        ) (
        j1 t0
        )
      ) (
      j1 t0
      )
    ) (f25_j1)
theorem s25 (t0 t1 : Value) (w : World) (Q : Value → World → Prop) (h : f25 t0 t1 w Q) : Calls Try.prog 25 #[t0, t1] w (Rt Q) := by
  refine calls_of (l := [t0, t1]) Try.func25 rfl Try.ntmps25 (Nat.le_of_ble_eq_true rfl) ?_
  unfold f25 at h
  refine wp_seq ?_
  refine L_region ?_
  refine L_as ?_
  refine L_nil ?_
  refine E_n ?_
  refine wp_seq ?_
  refine L_region ?_
  refine L_mv ?_
  refine L_u (N_ci h) ?_
  intro v w h
  refine L_u (P_su h) ?_
  intro v w h
  refine L_as ?_
  refine L_nil ?_
  refine E_n ?_
  refine wp_seq ?_
  refine wp_seq ?_
  refine L_region ?_
  refine L_mv ?_
  refine L_mv ?_
  refine L_u (P_nei h) ?_
  intro v w h
  refine L_nil ?_
  refine E_n ?_
  refine C_join (fun (k : Value → M) (ρ : Nat → Value) => k (ρ 0)) h (fun j1 J1 h => ?_) (fun ρ w h => ?_)
  · refine C_cnd h (fun h => ?_) (fun h => ?_)
    · refine wp_seq ?_
      refine L_region ?_
      refine L_mv ?_
      refine L_mv ?_
      refine L_mv ?_
      refine L_u (N_ci h) ?_
      intro v w h
      refine L_nil ?_
      refine E_n ?_
      refine wp_seq ?_
      refine L_region ?_
      refine L_mv ?_
      refine L_mv ?_
      refine L_mv ?_
      refine L_u (N_cl Try.func26 rfl nn26 (fun w Q h => s26 _ _ _ w Q h) h) ?_
      intro v w h
      refine L_u (P_nt h) ?_
      intro v w h
      refine L_nil ?_
      refine E_n ?_
      refine C_cnd h (fun h => ?_) (fun h => ?_)
      · refine L_region ?_
        refine L_mv ?_
        refine L_mv ?_
        refine L_u (N_cl Try.func27 rfl nn27 (fun w Q h => s27 _ _ w Q h) h) ?_
        intro v w h
        refine L_nil ?_
        exact J1 _ _ h
      · refine C_skip ?_
        exact J1 _ _ h
    · refine C_skip ?_
      exact J1 _ _ h
  · unfold f25_j1 at h
    refine E_n ?_
    refine wp_seq ?_
    refine L_region ?_
    refine L_mv ?_
    refine L_u (N_ci h) ?_
    intro v w h
    refine L_as ?_
    refine L_nil ?_
    refine E_n ?_
    refine C_ret ?_
    show bodyPost Try.prog Try.f25 (Rt Q) .ret _ _
    exact post_tmps (ts := [4]) (.inr rfl) rfl h

/- (*factotum/timers.Timers).Drop -/
def f15 (t0 t1 : Value) : M :=
  smr Try.prog (do eqGuard .eql 25 (.tmp 5) (.const (.pointer none)) t0 (.pointer none); binOp .eql 25 t0 (.pointer none)) fun t6 =>
  gd t6 false (idv t0) fun t8 =>
  gd t6 false (nc t8) fun t9 =>
  gd t6 false (fa 1 t9) fun t10 =>
  gd t6 false (ld t10) fun t11 =>
  gd t6 false (idv t1) fun t12 =>
  gd t6 false (smr Try.prog (Instr.lookup 50 t11 t12 false)) fun t13 =>
  gd t6 false (smr Try.prog (do eqGuard .eql 55 (.tmp 13) (.const (.pointer none)) t13 (.pointer none); binOp .eql 55 t13 (.pointer none))) fun t14 =>
  pk t6 (.bool true) t14 fun t15 =>
  cnd t15 (
    rt (.bool false)
    ) (
    dr <|
    idv t0 fun t16 =>
    nc t16 fun t17 =>
    fa 0 t17 fun t18 =>
    mif 60 t18 fun t19 =>
    idv t0 fun t20 =>
    nc t20 fun t21 =>
    fa 1 t21 fun t22 =>
    ld t22 fun t23 =>
    idv t1 fun t24 =>
    smr Try.prog (Instr.lookup 50 t23 t24 false) fun t25 =>
    nc t25 fun t26 =>
    fa 2 t26 fun t27 =>
    ld t27 fun t28 =>
    cl (f25 t19 t28) fun t29 =>
    nc t0 fun t31 =>
    fa 1 t31 fun t32 =>
    ld t32 fun t33 =>
    sm Try.prog (Builtin.delete_ #[50, 3] 0 #[t33, t1]) fun _ =>
    rt (.bool true)
    )
theorem s15 (t0 t1 : Value) (w : World) (Q : Value → World → Prop) (h : f15 t0 t1 w Q) : Calls Try.prog 15 #[t0, t1] w (Rt Q) := by
  refine calls_of (l := [t0, t1]) Try.func15 rfl Try.ntmps15 (Nat.le_of_ble_eq_true rfl) ?_
  unfold f15 at h
  refine wp_seq ?_
  refine L_region ?_
  refine L_as ?_
  refine L_nil ?_
  refine E_n ?_
  refine wp_seq ?_
  refine wp_seq ?_
  refine L_region ?_
  refine L_mv ?_
  refine L_u (P_smr rfl h) ?_
  intro v w h
  refine L_mv ?_
  refine L_g (t := 7) h rfl rfl (fun c h => P_mv h c) ?_
  intro v w h
  refine L_g (t := 7) h rfl rfl (fun c h => P_nc h c) ?_
  intro v w h
  refine L_g (t := 7) h rfl rfl (fun c h => P_fa fo54_1 h c) ?_
  intro v w h
  refine L_g (t := 7) h rfl rfl (fun c h => P_ld sc50 h c) ?_
  intro v w h
  refine L_g (t := 7) h rfl rfl (fun c h => P_mv h c) ?_
  intro v w h
  refine L_g (t := 7) h rfl rfl (fun c h => P_smr rfl h c) ?_
  intro v w h
  refine L_g (t := 7) h rfl rfl (fun c h => P_smr rfl h c) ?_
  intro v w h
  refine L_u (P_pk h) ?_
  intro v w h
  refine L_nil ?_
  refine E_n ?_
  refine C_cnd h (fun h => ?_) (fun h => ?_)
  · refine wp_seq ?_
    refine L_region ?_
    refine L_as ?_
    refine L_nil ?_
    refine E_n ?_
    refine C_ret ?_
    show bodyPost Try.prog Try.f15 (Rt Q) .ret _ _
    exact post_tmps (ts := [4]) (.inr rfl) rfl h
  · refine C_skip ?_
    refine E_n ?_
    refine wp_seq ?_
    refine D_region (by decide +kernel) 14 rfl ?_
    replace h := dr_e h
    refine G_p 0 rfl (by decide +kernel) (Y_mv h) ?_
    intro v h
    refine G_p 1 rfl (by decide +kernel) (Y_nc h) ?_
    intro v h
    refine G_p 2 rfl (by decide +kernel) (Y_fa fo54_0 h) ?_
    intro v h
    refine G_p 3 rfl (by decide +kernel) (Y_mif co60 h) ?_
    intro v h
    refine G_p 4 rfl (by decide +kernel) (Y_mv h) ?_
    intro v h
    refine G_p 5 rfl (by decide +kernel) (Y_nc h) ?_
    intro v h
    refine G_p 6 rfl (by decide +kernel) (Y_fa fo54_1 h) ?_
    intro v h
    refine G_r _ 7 rfl (by decide +kernel) (R_ld sc50 h) ?_
    intro v h
    refine G_p 8 rfl (by decide +kernel) (Y_mv h) ?_
    intro v h
    refine G_r _ 9 rfl (by decide +kernel) (R_sm rfl h) ?_
    intro v h
    refine G_p 10 rfl (by decide +kernel) (Y_nc h) ?_
    intro v h
    refine G_p 11 rfl (by decide +kernel) (Y_fa fo58_2 h) ?_
    intro v h
    refine G_r _ 12 rfl (by decide +kernel) (R_ld sc3 h) ?_
    intro v h
    refine G_e 13 rfl (by decide +kernel) (N_cl Try.func25 rfl nn25 (fun w Q h => s25 _ _ w Q h) h ?_)
    intro v w h
    refine ⟨keepF_dep [12] (by decide +kernel) rfl (keepF_dep [12, 11, 10, 9] (by decide +kernel) rfl (keepF_dep [12, 11, 10, 9, 7] (by decide +kernel) rfl keepF_nil)), ?_⟩
    refine G_done (by decide +kernel) ?_
    refine E_n ?_
    refine wp_seq ?_
    refine L_region ?_
    refine L_mv ?_
    refine L_u (P_nc h) ?_
    intro v w h
    refine L_u (P_fa fo54_1 h) ?_
    intro v w h
    refine L_u (P_ld sc50 h) ?_
    intro v w h
    refine L_mv ?_
    refine L_u (N_bin rfl h) ?_
    intro w h
    refine L_nil ?_
    refine E_n ?_
    refine wp_seq ?_
    refine L_region ?_
    refine L_as ?_
    refine L_nil ?_
    refine E_n ?_
    refine C_ret ?_
    show bodyPost Try.prog Try.f15 (Rt Q) .ret _ _
    exact post_tmps (ts := [4]) (.inr rfl) rfl h
end Go.Proofs.Ytpjffilejnemmaa
