/- Functions as predicate transformers, and that the machine does what they say, by program. -/
import Derived.Test.YtpjffilejnemmaaF1
set_option linter.unusedVariables false
set_option maxRecDepth 20000
set_option maxHeartbeats 4000000
namespace Go.Proofs.Ytpjffilejnemmaa
open Sh
attribute [local irreducible] wpL anyG act jn lo gdB amb kp smr nc fa ld ldn st stn ad su mu qu re lt le gt ge eqi nei bws shl shr cat eqs nes lts gts eqb neb nt pk cv al bx ex fld fldn lnl lns ia iaa ixs sls sll sla mif mnm mxm mm asrt sm smu cl cc cf ci cnd gd gdu
/- cmp.isNaN[int] -/
def f51 (t0 : Value) : M :=
  nei .i64 t0 t0 fun t5 =>
  rt t5
theorem s51 (t0 : Value) (w : World) (Q : Value → World → Prop) (h : f51 t0 w Q) : Calls Try.prog 51 #[t0] w (Rt Q) := by
  refine calls_of (l := [t0]) Try.func51 rfl Try.ntmps51 (Nat.le_of_ble_eq_true rfl) ?_
  unfold f51 at h
  refine wp_seq ?_
  refine L_region ?_
  refine L_as ?_
  refine L_nil ?_
  refine E_n ?_
  refine wp_seq ?_
  refine L_region ?_
  refine L_mv ?_
  refine L_mv ?_
  refine L_u (P_nei h) ?_
  intro v w h
  refine L_as ?_
  refine L_nil ?_
  refine E_n ?_
  refine C_ret ?_
  show bodyPost Try.prog Try.f51 (Rt Q) .ret _ _
  exact post_tmps (ts := [2]) (.inr rfl) rfl h

/- cmp.Compare[int] -/
def f49 (t0 t1 : Value) : M :=
  cl (f51 t0) fun t8 =>
  cl (f51 t1) fun t10 =>
  cnd t8 (
    cnd t10 (
      rt (.int .i64 0)
      ) (
      rt (.int .i64 (-1))
      )
    ) (
    cnd t10 (
      rt (.int .i64 1)
      ) (
      lt .i64 t0 t1 fun t16 =>
      cnd t16 (
        rt (.int .i64 (-1))
        ) (
        gt .i64 t0 t1 fun t19 =>
        cnd t19 (
          rt (.int .i64 1)
          ) (
          rt (.int .i64 0)
          )
        )
      )
    )
theorem s49 (t0 t1 : Value) (w : World) (Q : Value → World → Prop) (h : f49 t0 t1 w Q) : Calls Try.prog 49 #[t0, t1] w (Rt Q) := by
  refine calls_of (l := [t0, t1]) Try.func49 rfl Try.ntmps49 (Nat.le_of_ble_eq_true rfl) ?_
  unfold f49 at h
  refine wp_seq ?_
  refine L_region ?_
  refine L_as ?_
  refine L_nil ?_
  refine E_n ?_
  refine wp_seq ?_
  refine L_region ?_
  refine L_mv ?_
  refine L_u (N_cl Try.func51 rfl nn51 (fun w Q h => s51 _ w Q h) h) ?_
  intro v w h
  refine L_as ?_
  refine L_nil ?_
  refine E_n ?_
  refine wp_seq ?_
  refine L_region ?_
  refine L_mv ?_
  refine L_u (N_cl Try.func51 rfl nn51 (fun w Q h => s51 _ w Q h) h) ?_
  intro v w h
  refine L_as ?_
  refine L_nil ?_
  refine E_n ?_
  refine wp_seq ?_
  refine wp_seq ?_
  refine L_region ?_
  refine L_mv ?_
  refine L_nil ?_
  refine E_n ?_
  refine C_cnd h (fun h => ?_) (fun h => ?_)
  · refine wp_seq ?_
    refine wp_seq ?_
    refine L_region ?_
    refine L_mv ?_
    refine L_nil ?_
    refine E_n ?_
    refine C_cnd h (fun h => ?_) (fun h => ?_)
    · refine wp_seq ?_
      refine L_region ?_
      refine L_as ?_
      refine L_nil ?_
      refine E_n ?_
      refine C_ret ?_
      show bodyPost Try.prog Try.f49 (Rt Q) .ret _ _
      exact post_tmps (ts := [4]) (.inr rfl) rfl h
    · refine C_skip ?_
      refine E_n ?_
      refine wp_seq ?_
      refine L_region ?_
      refine L_as ?_
      refine L_nil ?_
      refine E_n ?_
      refine C_ret ?_
      show bodyPost Try.prog Try.f49 (Rt Q) .ret _ _
      exact post_tmps (ts := [4]) (.inr rfl) rfl h
  · refine C_skip ?_
    refine E_n ?_
    refine wp_seq ?_
    refine wp_seq ?_
    refine L_region ?_
    refine L_mv ?_
    refine L_nil ?_
    refine E_n ?_
    refine C_cnd h (fun h => ?_) (fun h => ?_)
    · refine wp_seq ?_
      refine L_region ?_
      refine L_as ?_
      refine L_nil ?_
      refine E_n ?_
      refine C_ret ?_
      show bodyPost Try.prog Try.f49 (Rt Q) .ret _ _
      exact post_tmps (ts := [4]) (.inr rfl) rfl h
    · refine C_skip ?_
      refine E_n ?_
      refine wp_seq ?_
      refine wp_seq ?_
      refine L_region ?_
      refine L_mv ?_
      refine L_mv ?_
      refine L_u (P_lt h) ?_
      intro v w h
      refine L_nil ?_
      refine E_n ?_
      refine C_cnd h (fun h => ?_) (fun h => ?_)
      · refine wp_seq ?_
        refine L_region ?_
        refine L_as ?_
        refine L_nil ?_
        refine E_n ?_
        refine C_ret ?_
        show bodyPost Try.prog Try.f49 (Rt Q) .ret _ _
        exact post_tmps (ts := [4]) (.inr rfl) rfl h
      · refine C_skip ?_
        refine E_n ?_
        refine wp_seq ?_
        refine wp_seq ?_
        refine L_region ?_
        refine L_mv ?_
        refine L_mv ?_
        refine L_u (P_gt h) ?_
        intro v w h
        refine L_nil ?_
        refine E_n ?_
        refine C_cnd h (fun h => ?_) (fun h => ?_)
        · refine wp_seq ?_
          refine L_region ?_
          refine L_as ?_
          refine L_nil ?_
          refine E_n ?_
          refine C_ret ?_
          show bodyPost Try.prog Try.f49 (Rt Q) .ret _ _
          exact post_tmps (ts := [4]) (.inr rfl) rfl h
        · refine C_skip ?_
          refine E_n ?_
          refine wp_seq ?_
          refine L_region ?_
          refine L_as ?_
          refine L_nil ?_
          refine E_n ?_
          refine C_ret ?_
          show bodyPost Try.prog Try.f49 (Rt Q) .ret _ _
          exact post_tmps (ts := [4]) (.inr rfl) rfl h

/- (factotum/timers.queue).Less -/
def f45 (t0 t1 t2 : Value) : M :=
  dr <|
  idv t0 fun t7 =>
  idv t1 fun t8 =>
  ia 1 t7 t8 fun t9 =>
  ld t9 fun t10 =>
  nc t10 fun t11 =>
  fa 1 t11 fun t12 =>
  ld t12 fun t13 =>
  idv t0 fun t14 =>
  idv t2 fun t15 =>
  ia 1 t14 t15 fun t16 =>
  ld t16 fun t17 =>
  nc t17 fun t18 =>
  fa 1 t18 fun t19 =>
  ld t19 fun t20 =>
  idv t0 fun t22 =>
  idv t1 fun t23 =>
  ia 1 t22 t23 fun t24 =>
  ld t24 fun t25 =>
  nc t25 fun t26 =>
  fa 0 t26 fun t27 =>
  ld t27 fun t28 =>
  idv t0 fun t29 =>
  idv t2 fun t30 =>
  ia 1 t29 t30 fun t31 =>
  ld t31 fun t32 =>
  nc t32 fun t33 =>
  fa 0 t33 fun t34 =>
  ld t34 fun t35 =>
  cl (f48 t13 t20) fun t21 =>
  kp (Kld t34 t35) <|
  kp (Kld t31 t32) <|
  kp (Kld t27 t28) <|
  kp (Kld t24 t25) <|
  cl (f49 t28 t35) fun t36 =>
  sm Try.prog (Instr.buildSlice 32 2 #[(0, t21), (1, t36)]) fun t37 =>
  cl (f47 t37) fun t38 =>
  lt .i64 t38 (.int .i64 0) fun t39 =>
  idv t39 fun t6 =>
  rt t6
theorem s45 (t0 t1 t2 : Value) (w : World) (Q : Value → World → Prop) (h : f45 t0 t1 t2 w Q) : Calls Try.prog 45 #[t0, t1, t2] w (Rt Q) := by
  refine calls_of (l := [t0, t1, t2]) Try.func45 rfl Try.ntmps45 (Nat.le_of_ble_eq_true rfl) ?_
  unfold f45 at h
  refine wp_seq ?_
  refine L_region ?_
  refine L_as ?_
  refine L_nil ?_
  refine E_n ?_
  refine wp_seq ?_
  refine D_region (by decide +kernel) 34 rfl ?_
  replace h := dr_e h
  refine G_p 0 rfl (by decide +kernel) (Y_mv h) ?_
  intro v h
  refine G_p 1 rfl (by decide +kernel) (Y_mv h) ?_
  intro v h
  refine G_p 2 rfl (by decide +kernel) (Y_ia se52 h) ?_
  intro v h
  refine G_r _ 3 rfl (by decide +kernel) (R_ld sc55 h) ?_
  intro v h
  refine G_p 4 rfl (by decide +kernel) (Y_nc h) ?_
  intro v h
  refine G_p 5 rfl (by decide +kernel) (Y_fa fo58_1 h) ?_
  intro v h
  refine G_r _ 6 rfl (by decide +kernel) (R_ld sc2 h) ?_
  intro v h
  refine G_p 7 rfl (by decide +kernel) (Y_mv h) ?_
  intro v h
  refine G_p 8 rfl (by decide +kernel) (Y_mv h) ?_
  intro v h
  refine G_p 9 rfl (by decide +kernel) (Y_ia se52 h) ?_
  intro v h
  refine G_r _ 10 rfl (by decide +kernel) (R_ld sc55 h) ?_
  intro v h
  refine G_p 11 rfl (by decide +kernel) (Y_nc h) ?_
  intro v h
  refine G_p 12 rfl (by decide +kernel) (Y_fa fo58_1 h) ?_
  intro v h
  refine G_r _ 13 rfl (by decide +kernel) (R_ld sc2 h) ?_
  intro v h
  refine G_p 15 rfl (by decide +kernel) (Y_mv h) ?_
  intro v h
  refine G_p 16 rfl (by decide +kernel) (Y_mv h) ?_
  intro v h
  refine G_p 17 rfl (by decide +kernel) (Y_ia se52 h) ?_
  intro v h
  refine G_r _ 18 rfl (by decide +kernel) (R_ld sc55 h) ?_
  intro v h
  refine G_p 19 rfl (by decide +kernel) (Y_nc h) ?_
  intro v h
  refine G_p 20 rfl (by decide +kernel) (Y_fa fo58_0 h) ?_
  intro v h
  refine G_r _ 21 rfl (by decide +kernel) (R_ld sc3 h) ?_
  intro v h
  refine G_p 22 rfl (by decide +kernel) (Y_mv h) ?_
  intro v h
  refine G_p 23 rfl (by decide +kernel) (Y_mv h) ?_
  intro v h
  refine G_p 24 rfl (by decide +kernel) (Y_ia se52 h) ?_
  intro v h
  refine G_r _ 25 rfl (by decide +kernel) (R_ld sc55 h) ?_
  intro v h
  refine G_p 26 rfl (by decide +kernel) (Y_nc h) ?_
  intro v h
  refine G_p 27 rfl (by decide +kernel) (Y_fa fo58_0 h) ?_
  intro v h
  refine G_r _ 28 rfl (by decide +kernel) (R_ld sc3 h) ?_
  intro v h
  refine G_e 14 rfl (by decide +kernel) (N_cl Try.func48 rfl nn48 (fun w Q h => s48 _ _ w Q h) h ?_)
  intro v w h
  refine ⟨keepF_cons (kp_1 h) (keepF_cons (kp_1 (kp_2 h)) (keepF_cons (kp_1 (kp_2 (kp_2 h))) (keepF_cons (kp_1 (kp_2 (kp_2 (kp_2 h)))) (keepF_dep [13] (by decide +kernel) rfl (keepF_dep [13, 12, 11, 10] (by decide +kernel) rfl (keepF_dep [6] (by decide +kernel) rfl (keepF_dep [6, 5, 4, 3] (by decide +kernel) rfl keepF_nil))))))), ?_⟩
  replace h := (kp_2 (kp_2 (kp_2 (kp_2 h))))
  refine G_e 29 rfl (by decide +kernel) (N_cl Try.func49 rfl nn49 (fun w Q h => s49 _ _ w Q h) h ?_)
  intro v w h
  refine ⟨keepF_dep [28] (by decide +kernel) rfl (keepF_dep [28, 27, 26, 25] (by decide +kernel) rfl (keepF_dep [21] (by decide +kernel) rfl (keepF_dep [21, 20, 19, 18] (by decide +kernel) rfl (keepF_dep [14, 13] (by decide +kernel) rfl (keepF_dep [14, 13, 12, 11, 10] (by decide +kernel) rfl (keepF_dep [14, 6] (by decide +kernel) rfl (keepF_dep [14, 6, 5, 4, 3] (by decide +kernel) rfl keepF_nil))))))), ?_⟩
  refine G_e 30 rfl (by decide +kernel) (N_bsl h ?_)
  intro v w h
  refine ⟨keepF_dep [29, 28] (by decide +kernel) rfl (keepF_dep [29, 28, 27, 26, 25] (by decide +kernel) rfl (keepF_dep [29, 21] (by decide +kernel) rfl (keepF_dep [29, 21, 20, 19, 18] (by decide +kernel) rfl (keepF_dep [14, 13] (by decide +kernel) rfl (keepF_dep [14, 13, 12, 11, 10] (by decide +kernel) rfl (keepF_dep [14, 6] (by decide +kernel) rfl (keepF_dep [14, 6, 5, 4, 3] (by decide +kernel) rfl keepF_nil))))))), ?_⟩
  refine G_e 31 rfl (by decide +kernel) (N_cl Try.func47 rfl nn47 (fun w Q h => s47 _ w Q h) h ?_)
  intro v w h
  refine ⟨keepF_dep [29, 28] (by decide +kernel) rfl (keepF_dep [29, 28, 27, 26, 25] (by decide +kernel) rfl (keepF_dep [29, 21] (by decide +kernel) rfl (keepF_dep [29, 21, 20, 19, 18] (by decide +kernel) rfl (keepF_dep [30, 14, 13] (by decide +kernel) rfl (keepF_dep [30, 14, 13, 12, 11, 10] (by decide +kernel) rfl (keepF_dep [30, 14, 6] (by decide +kernel) rfl (keepF_dep [30, 14, 6, 5, 4, 3] (by decide +kernel) rfl keepF_nil))))))), ?_⟩
  refine G_p 32 rfl (by decide +kernel) (Y_lt h) ?_
  intro v h
  refine G_p 33 rfl (by decide +kernel) (Y_as h) ?_
  intro v h
  refine G_done (by decide +kernel) ?_
  refine E_n ?_
  refine C_ret ?_
  show bodyPost Try.prog Try.f45 (Rt Q) .ret _ _
  exact post_tmps (ts := [6]) (.inr rfl) rfl h

/- (factotum/timers.queue).Swap -/
def f46 (t0 t1 t2 : Value) : M :=
  dr <|
  idv t0 fun t6 =>
  idv t1 fun t7 =>
  idv t0 fun t8 =>
  idv t2 fun t9 =>
  idv t0 fun t10 =>
  idv t2 fun t11 =>
  ia 1 t10 t11 fun t12 =>
  ld t12 fun t13 =>
  idv t0 fun t14 =>
  idv t1 fun t15 =>
  ia 1 t14 t15 fun t16 =>
  ld t16 fun t17 =>
  ia 1 t6 t7 fun t18 =>
  st t18 t13 <|
  ia 1 t8 t9 fun t19 =>
  st t19 t17 <|
  dr <|
  idv t0 fun t20 =>
  idv t1 fun t21 =>
  ia 1 t20 t21 fun t22 =>
  ld t22 fun t23 =>
  idv t0 fun t24 =>
  idv t2 fun t25 =>
  ia 1 t24 t25 fun t26 =>
  ld t26 fun t27 =>
  idv t1 fun t28 =>
  idv t2 fun t29 =>
  nc t23 fun t30 =>
  fa 2 t30 fun t31 =>
  st t31 t28 <|
  nc t27 fun t32 =>
  fa 2 t32 fun t33 =>
  st t33 t29 <|
  rt (.tuple #[])
theorem s46 (t0 t1 t2 : Value) (w : World) (Q : Value → World → Prop) (h : f46 t0 t1 t2 w Q) : Calls Try.prog 46 #[t0, t1, t2] w (Rt Q) := by
  refine calls_of (l := [t0, t1, t2]) Try.func46 rfl Try.ntmps46 (Nat.le_of_ble_eq_true rfl) ?_
  unfold f46 at h
  refine wp_seq ?_
  refine D_region (by decide +kernel) 16 rfl ?_
  replace h := dr_e h
  refine G_p 0 rfl (by decide +kernel) (Y_mv h) ?_
  intro v h
  refine G_p 1 rfl (by decide +kernel) (Y_mv h) ?_
  intro v h
  refine G_p 2 rfl (by decide +kernel) (Y_mv h) ?_
  intro v h
  refine G_p 3 rfl (by decide +kernel) (Y_mv h) ?_
  intro v h
  refine G_p 4 rfl (by decide +kernel) (Y_mv h) ?_
  intro v h
  refine G_p 5 rfl (by decide +kernel) (Y_mv h) ?_
  intro v h
  refine G_p 6 rfl (by decide +kernel) (Y_ia se52 h) ?_
  intro v h
  refine G_r _ 7 rfl (by decide +kernel) (R_ld sc55 h) ?_
  intro v h
  refine G_p 8 rfl (by decide +kernel) (Y_mv h) ?_
  intro v h
  refine G_p 9 rfl (by decide +kernel) (Y_mv h) ?_
  intro v h
  refine G_p 10 rfl (by decide +kernel) (Y_ia se52 h) ?_
  intro v h
  refine G_r _ 11 rfl (by decide +kernel) (R_ld sc55 h) ?_
  intro v h
  refine G_p 12 rfl (by decide +kernel) (Y_ia se52 h) ?_
  intro v h
  refine G_e 13 rfl (by decide +kernel) (P_st on55 h ?_)
  intro w h
  refine ⟨keepF_dep [11] (by decide +kernel) rfl (keepF_dep [7] (by decide +kernel) rfl keepF_nil), ?_⟩
  refine G_p 14 rfl (by decide +kernel) (Y_ia se52 h) ?_
  intro v h
  refine G_e 15 rfl (by decide +kernel) (P_st on55 h ?_)
  intro w h
  refine ⟨keepF_dep [11] (by decide +kernel) rfl (keepF_dep [7] (by decide +kernel) rfl keepF_nil), ?_⟩
  refine G_done (by decide +kernel) ?_
  refine E_n ?_
  refine D_region (by decide +kernel) 16 rfl ?_
  replace h := dr_e h
  refine G_p 0 rfl (by decide +kernel) (Y_mv h) ?_
  intro v h
  refine G_p 1 rfl (by decide +kernel) (Y_mv h) ?_
  intro v h
  refine G_p 2 rfl (by decide +kernel) (Y_ia se52 h) ?_
  intro v h
  refine G_r _ 3 rfl (by decide +kernel) (R_ld sc55 h) ?_
  intro v h
  refine G_p 4 rfl (by decide +kernel) (Y_mv h) ?_
  intro v h
  refine G_p 5 rfl (by decide +kernel) (Y_mv h) ?_
  intro v h
  refine G_p 6 rfl (by decide +kernel) (Y_ia se52 h) ?_
  intro v h
  refine G_r _ 7 rfl (by decide +kernel) (R_ld sc55 h) ?_
  intro v h
  refine G_p 8 rfl (by decide +kernel) (Y_mv h) ?_
  intro v h
  refine G_p 9 rfl (by decide +kernel) (Y_mv h) ?_
  intro v h
  refine G_p 10 rfl (by decide +kernel) (Y_nc h) ?_
  intro v h
  refine G_p 11 rfl (by decide +kernel) (Y_fa fo58_2 h) ?_
  intro v h
  refine G_e 12 rfl (by decide +kernel) (P_st on3 h ?_)
  intro w h
  refine ⟨keepF_dep [7] (by decide +kernel) rfl (keepF_dep [3] (by decide +kernel) rfl keepF_nil), ?_⟩
  refine G_p 13 rfl (by decide +kernel) (Y_nc h) ?_
  intro v h
  refine G_p 14 rfl (by decide +kernel) (Y_fa fo58_2 h) ?_
  intro v h
  refine G_e 15 rfl (by decide +kernel) (P_st on3 h ?_)
  intro w h
  refine ⟨keepF_dep [7] (by decide +kernel) rfl (keepF_dep [3] (by decide +kernel) rfl keepF_nil), ?_⟩
  refine G_done (by decide +kernel) ?_
  show bodyPost Try.prog Try.f46 (Rt Q) .normal _ _
  exact post_tmps (ts := []) (.inl rfl) rfl h

/- (*factotum/timers.queue).Pop -/
def f52 (t0 : Value) : M :=
  nc t0 fun t6 =>
  ld t6 fun t7 =>
  lnl t7 fun t10 =>
  su .i64 t10 (.int .i64 1) fun t11 =>
  ia 1 t7 t11 fun t12 =>
  ld t12 fun t13 =>
  lnl t7 fun t17 =>
  su .i64 t17 (.int .i64 1) fun t18 =>
  sll 1 t7 none (some t18) fun t19 =>
  nc t0 fun t20 =>
  st t20 t19 <|
  mif 55 t13 fun t22 =>
  rt t22
theorem s52 (t0 : Value) (w : World) (Q : Value → World → Prop) (h : f52 t0 w Q) : Calls Try.prog 52 #[t0] w (Rt Q) := by
  refine calls_of (l := [t0]) Try.func52 rfl Try.ntmps52 (Nat.le_of_ble_eq_true rfl) ?_
  unfold f52 at h
  refine wp_seq ?_
  refine L_region ?_
  refine L_as ?_
  refine L_nil ?_
  refine E_n ?_
  refine wp_seq ?_
  refine L_region ?_
  refine L_mv ?_
  refine L_u (P_nc h) ?_
  intro v w h
  refine L_u (P_ld sc52 h) ?_
  intro v w h
  refine L_as ?_
  refine L_nil ?_
  refine E_n ?_
  refine wp_seq ?_
  refine L_region ?_
  refine L_mv ?_
  refine L_mv ?_
  refine L_u (P_lnl is52 h) ?_
  intro v w h
  refine L_u (P_su h) ?_
  intro v w h
  refine L_u (P_ia se52 h) ?_
  intro v w h
  refine L_u (P_ld sc55 h) ?_
  intro v w h
  refine L_as ?_
  refine L_nil ?_
  refine E_n ?_
  refine wp_seq ?_
  refine L_region ?_
  refine L_mv ?_
  refine L_mv ?_
  refine L_mv ?_
  refine L_u (P_lnl is52 h) ?_
  intro v w h
  refine L_u (P_su h) ?_
  intro v w h
  refine L_u (P_sll se52 h) ?_
  intro v w h
  refine L_u (P_nc h) ?_
  intro v w h
  refine L_u (P_st on52 h) ?_
  intro w h
  refine L_nil ?_
  refine E_n ?_
  refine wp_seq ?_
  refine L_region ?_
  refine L_mv ?_
  refine L_u (P_mif co55 h) ?_
  intro v w h
  refine L_as ?_
  refine L_nil ?_
  refine E_n ?_
  refine C_ret ?_
  show bodyPost Try.prog Try.f52 (Rt Q) .ret _ _
  exact post_tmps (ts := [2]) (.inr rfl) rfl h

/- (*factotum/timers.queue).Push -/
def f53 (t0 t1 : Value) : M :=
  asrt 55 t1 fun t6 =>
  nc t0 fun t9 =>
  ld t9 fun t10 =>
  lnl t10 fun t11 =>
  nc t6 fun t12 =>
  fa 2 t12 fun t13 =>
  st t13 t11 <|
  nc t0 fun t16 =>
  ld t16 fun t17 =>
  sm Try.prog (Instr.buildSlice 52 1 #[(0, t6)]) fun t19 =>
  sm Try.prog (Builtin.append_ #[52, 52] 52 #[t17, t19]) fun t20 =>
  nc t0 fun t21 =>
  st t21 t20 <|
  rt (.tuple #[])
theorem s53 (t0 t1 : Value) (w : World) (Q : Value → World → Prop) (h : f53 t0 t1 w Q) : Calls Try.prog 53 #[t0, t1] w (Rt Q) := by
  refine calls_of (l := [t0, t1]) Try.func53 rfl Try.ntmps53 (Nat.le_of_ble_eq_true rfl) ?_
  unfold f53 at h
  refine wp_seq ?_
  refine L_region ?_
  refine L_mv ?_
  refine L_u (P_asrt co55 h) ?_
  intro v w h
  refine L_as ?_
  refine L_nil ?_
  refine E_n ?_
  refine wp_seq ?_
  refine L_region ?_
  refine L_mv ?_
  refine L_mv ?_
  refine L_u (P_nc h) ?_
  intro v w h
  refine L_u (P_ld sc52 h) ?_
  intro v w h
  refine L_u (P_lnl is52 h) ?_
  intro v w h
  refine L_u (P_nc h) ?_
  intro v w h
  refine L_u (P_fa fo58_2 h) ?_
  intro v w h
  refine L_u (P_st on3 h) ?_
  intro w h
  refine L_nil ?_
  refine E_n ?_
  refine L_region ?_
  refine L_mv ?_
  refine L_mv ?_
  refine L_u (P_nc h) ?_
  intro v w h
  refine L_u (P_ld sc52 h) ?_
  intro v w h
  refine L_mv ?_
  refine L_u (N_bsl h) ?_
  intro v w h
  refine L_u (N_bi rfl h) ?_
  intro v w h
  refine L_u (P_nc h) ?_
  intro v w h
  refine L_u (P_st on52 h) ?_
  intro w h
  refine L_nil ?_
  show bodyPost Try.prog Try.f53 (Rt Q) .normal _ _
  exact post_tmps (ts := []) (.inl rfl) rfl h
end Go.Proofs.Ytpjffilejnemmaa
