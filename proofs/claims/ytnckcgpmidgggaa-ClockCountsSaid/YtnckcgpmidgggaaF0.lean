/- Functions as predicate transformers, and that the machine does what they say, by program. -/
import Derived.Test.YtnckcgpmidgggaaTy
set_option linter.unusedVariables false
set_option maxRecDepth 20000
set_option maxHeartbeats 4000000
namespace Go.Proofs.Ytnckcgpmidgggaa
open Sh
attribute [local irreducible] wpL anyG act jn lo gdB amb kp smr nc fa ld ldn st stn ad su mu qu re lt le gt ge eqi nei bws shl shr cat eqs nes lts gts eqb neb nt pk cv al bx ex fld fldn lnl lns ia iaa ixs sls sll sla mif mnm mxm mm asrt sm smu cl cc cf ci cnd gd gdu
/- factotum/clock.Right -/
def f11 (t0 : Value) : M :=
  bx 27 t0 fun t1 =>
  fa 0 t1 fun t3 =>
  ld t3 fun t4 =>
  ge .i64 t4 (.int .i64 1) fun t5 =>
  gd t5 true (fa 0 t1) fun t7 =>
  gd t5 true (ld t7) fun t8 =>
  gd t5 true (le .i64 t8 (.int .i64 1099511627776)) fun t9 =>
  pk t5 t9 (.bool false) fun t10 =>
  gd t10 true (fa 1 t1) fun t12 =>
  gd t10 true (ld t12) fun t13 =>
  gd t10 true (ge .i64 t13 (.int .i64 0)) fun t14 =>
  pk t10 t14 (.bool false) fun t15 =>
  gd t15 true (fa 1 t1) fun t17 =>
  gd t15 true (ld t17) fun t18 =>
  gd t15 true (fa 0 t1) fun t19 =>
  gd t15 true (ld t19) fun t20 =>
  gd t15 true (lt .i64 t18 t20) fun t21 =>
  pk t15 t21 (.bool false) fun t22 =>
  rt t22
theorem s11 (t0 : Value) (w : World) (Q : Value → World → Prop) (h : f11 t0 w Q) : Calls Try.prog 11 #[t0] w (Rt Q) := by
  refine calls_of (l := [t0]) Try.func11 rfl Try.ntmps11 (Nat.le_of_ble_eq_true rfl) ?_
  unfold f11 at h
  refine wp_seq ?_
  refine L_region ?_
  refine L_u (P_bx h) ?_
  intro v w h
  refine L_as ?_
  refine L_nil ?_
  refine E_n ?_
  refine wp_seq ?_
  refine L_region ?_
  refine L_u (P_fa fo27_0 h) ?_
  intro v w h
  refine L_u (P_ld sc2 h) ?_
  intro v w h
  refine L_u (P_ge h) ?_
  intro v w h
  refine L_mv ?_
  refine L_g (t := 6) h rfl rfl (fun c h => P_fa fo27_0 h c) ?_
  intro v w h
  refine L_g (t := 6) h rfl rfl (fun c h => P_ld sc2 h c) ?_
  intro v w h
  refine L_g (t := 6) h rfl rfl (fun c h => P_le h c) ?_
  intro v w h
  refine L_u (P_pk h) ?_
  intro v w h
  refine L_mv ?_
  refine L_g (t := 11) h rfl rfl (fun c h => P_fa fo27_1 h c) ?_
  intro v w h
  refine L_g (t := 11) h rfl rfl (fun c h => P_ld sc2 h c) ?_
  intro v w h
  refine L_g (t := 11) h rfl rfl (fun c h => P_ge h c) ?_
  intro v w h
  refine L_u (P_pk h) ?_
  intro v w h
  refine L_mv ?_
  refine L_g (t := 16) h rfl rfl (fun c h => P_fa fo27_1 h c) ?_
  intro v w h
  refine L_g (t := 16) h rfl rfl (fun c h => P_ld sc2 h c) ?_
  intro v w h
  refine L_g (t := 16) h rfl rfl (fun c h => P_fa fo27_0 h c) ?_
  intro v w h
  refine L_g (t := 16) h rfl rfl (fun c h => P_ld sc2 h c) ?_
  intro v w h
  refine L_g (t := 16) h rfl rfl (fun c h => P_lt h c) ?_
  intro v w h
  refine L_u (P_pk h) ?_
  intro v w h
  refine L_as ?_
  refine L_nil ?_
  refine E_n ?_
  refine C_ret ?_
  show bodyPost Try.prog Try.f11 (Rt Q) .ret _ _
  exact post_tmps (ts := [2]) (.inr rfl) rfl h

/- factotum/clock.near -/
def f22 (t0 : Value) : M :=
  ge .i64 t0 (.int .i64 (-1152921504606846976)) fun t4 =>
  gd t4 true (idv t0) fun t6 =>
  gd t4 true (le .i64 t6 (.int .i64 1152921504606846976)) fun t7 =>
  pk t4 t7 (.bool false) fun t8 =>
  rt t8
theorem s22 (t0 : Value) (w : World) (Q : Value → World → Prop) (h : f22 t0 w Q) : Calls Try.prog 22 #[t0] w (Rt Q) := by
  refine calls_of (l := [t0]) Try.func22 rfl Try.ntmps22 (Nat.le_of_ble_eq_true rfl) ?_
  unfold f22 at h
  refine wp_seq ?_
  refine L_region ?_
  refine L_as ?_
  refine L_nil ?_
  refine E_n ?_
  refine wp_seq ?_
  refine L_region ?_
  refine L_mv ?_
  refine L_u (P_ge h) ?_
  intro v w h
  refine L_mv ?_
  refine L_g (t := 5) h rfl rfl (fun c h => P_mv h c) ?_
  intro v w h
  refine L_g (t := 5) h rfl rfl (fun c h => P_le h c) ?_
  intro v w h
  refine L_u (P_pk h) ?_
  intro v w h
  refine L_as ?_
  refine L_nil ?_
  refine E_n ?_
  refine C_ret ?_
  show bodyPost Try.prog Try.f22 (Rt Q) .ret _ _
  exact post_tmps (ts := [2]) (.inr rfl) rfl h

/- factotum/clock.mod -/
def f27 (t0 t1 : Value) : M :=
  re .i64 t0 t1 fun t7 =>
  ad .i64 t7 t1 fun t9 =>
  re .i64 t9 t1 fun t11 =>
  rt t11
theorem s27 (t0 t1 : Value) (w : World) (Q : Value → World → Prop) (h : f27 t0 t1 w Q) : Calls Try.prog 27 #[t0, t1] w (Rt Q) := by
  refine calls_of (l := [t0, t1]) Try.func27 rfl Try.ntmps27 (Nat.le_of_ble_eq_true rfl) ?_
  unfold f27 at h
  refine wp_seq ?_
  refine L_region ?_
  refine L_as ?_
  refine L_nil ?_
  refine E_n ?_
  refine wp_seq ?_
  refine L_region ?_
  refine L_mv ?_
  refine L_mv ?_
  refine L_u (P_re h) ?_
  intro v w h
  refine L_mv ?_
  refine L_u (P_ad h) ?_
  intro v w h
  refine L_mv ?_
  refine L_u (P_re h) ?_
  intro v w h
  refine L_as ?_
  refine L_nil ?_
  refine E_n ?_
  refine C_ret ?_
  show bodyPost Try.prog Try.f27 (Rt Q) .ret _ _
  exact post_tmps (ts := [4]) (.inr rfl) rfl h

/- factotum/clock.behind -/
def f23 (t0 t1 : Value) : M :=
  bx 27 t0 fun t2 =>
  fa 1 t2 fun t6 =>
  ld t6 fun t7 =>
  su .i64 t7 t1 fun t9 =>
  fa 0 t2 fun t10 =>
  ld t10 fun t11 =>
  cl (f27 t9 t11) fun t12 =>
  ad .i64 t1 t12 fun t13 =>
  rt t13
theorem s23 (t0 t1 : Value) (w : World) (Q : Value → World → Prop) (h : f23 t0 t1 w Q) : Calls Try.prog 23 #[t0, t1] w (Rt Q) := by
  refine calls_of (l := [t0, t1]) Try.func23 rfl Try.ntmps23 (Nat.le_of_ble_eq_true rfl) ?_
  unfold f23 at h
  refine wp_seq ?_
  refine L_region ?_
  refine L_u (P_bx h) ?_
  intro v w h
  refine L_as ?_
  refine L_nil ?_
  refine E_n ?_
  refine wp_seq ?_
  refine L_region ?_
  refine L_mv ?_
  refine L_u (P_fa fo27_1 h) ?_
  intro v w h
  refine L_u (P_ld sc2 h) ?_
  intro v w h
  refine L_mv ?_
  refine L_u (P_su h) ?_
  intro v w h
  refine L_u (P_fa fo27_0 h) ?_
  intro v w h
  refine L_u (P_ld sc2 h) ?_
  intro v w h
  refine L_u (N_cl Try.func27 rfl nn27 (fun w Q h => s27 _ _ w Q h) h) ?_
  intro v w h
  refine L_u (P_ad h) ?_
  intro v w h
  refine L_as ?_
  refine L_nil ?_
  refine E_n ?_
  refine C_ret ?_
  show bodyPost Try.prog Try.f23 (Rt Q) .ret _ _
  exact post_tmps (ts := [4]) (.inr rfl) rfl h

/- factotum/clock.Next -/
def f8 (t0 t1 : Value) : M :=
  bx 27 t0 fun t2 =>
  ldn 2 t2 fun t6 =>
  cl (f11 t6) fun t7 =>
  nt t7 fun t8 =>
  gd t8 false (idv t1) fun t10 =>
  gd t8 false (cl (f22 t10)) fun t11 =>
  gd t8 false (nt t11) fun t12 =>
  pk t8 (.bool true) t12 fun t13 =>
  cnd t13 (
    rt (.tuple #[(.int .i64 0), (.bool false)])
    ) (
    ldn 2 t2 fun t14 =>
    ad .i64 t1 (.int .i64 1) fun t16 =>
    cl (f23 t14 t16) fun t17 =>
    rt (.tuple #[t17, (.bool true)])
    )
theorem s8 (t0 t1 : Value) (w : World) (Q : Value → World → Prop) (h : f8 t0 t1 w Q) : Calls Try.prog 8 #[t0, t1] w (Rt Q) := by
  refine calls_of (l := [t0, t1]) Try.func8 rfl Try.ntmps8 (Nat.le_of_ble_eq_true rfl) ?_
  unfold f8 at h
  refine wp_seq ?_
  refine L_region ?_
  refine L_u (P_bx h) ?_
  intro v w h
  refine L_as ?_
  refine L_as ?_
  refine L_nil ?_
  refine E_n ?_
  refine wp_seq ?_
  refine wp_seq ?_
  refine L_region ?_
  refine L_u (P_ldn ag27 h) ?_
  intro v w h
  refine L_u (N_cl Try.func11 rfl nn11 (fun w Q h => s11 _ w Q h) h) ?_
  intro v w h
  refine L_u (P_nt h) ?_
  intro v w h
  refine L_mv ?_
  refine L_g (t := 9) h rfl rfl (fun c h => P_mv h c) ?_
  intro v w h
  refine L_g (t := 9) h rfl rfl (fun c h => N_cl Try.func22 rfl nn22 (fun w Q h => s22 _ w Q h) h c) ?_
  intro v w h
  refine L_g (t := 9) h rfl rfl (fun c h => P_nt h c) ?_
  intro v w h
  refine L_u (P_pk h) ?_
  intro v w h
  refine L_nil ?_
  refine E_n ?_
  refine C_cnd h (fun h => ?_) (fun h => ?_)
  · refine wp_seq ?_
    refine L_region ?_
    refine L_as ?_
    refine L_as ?_
    refine L_nil ?_
    refine E_n ?_
    refine C_ret ?_
    show bodyPost Try.prog Try.f8 (Rt Q) .ret _ _
    exact post_tmps (ts := [4, 5]) (.inr rfl) rfl h
  · refine C_skip ?_
    refine E_n ?_
    refine wp_seq ?_
    refine L_region ?_
    refine L_u (P_ldn ag27 h) ?_
    intro v w h
    refine L_mv ?_
    refine L_u (P_ad h) ?_
    intro v w h
    refine L_u (N_cl Try.func23 rfl nn23 (fun w Q h => s23 _ _ w Q h) h) ?_
    intro v w h
    refine L_as ?_
    refine L_as ?_
    refine L_nil ?_
    refine E_n ?_
    refine C_ret ?_
    show bodyPost Try.prog Try.f8 (Rt Q) .ret _ _
    exact post_tmps (ts := [4, 5]) (.inr rfl) rfl h

/- factotum/clock.Count -/
def f15 (t0 t1 t2 : Value) : M :=
  bx 27 t0 fun t3 =>
  ldn 2 t3 fun t7 =>
  cl (f11 t7) fun t8 =>
  nt t8 fun t9 =>
  gd t9 false (idv t1) fun t11 =>
  gd t9 false (cl (f22 t11)) fun t12 =>
  gd t9 false (nt t12) fun t13 =>
  pk t9 (.bool true) t13 fun t14 =>
  gd t14 false (idv t2) fun t16 =>
  gd t14 false (cl (f22 t16)) fun t17 =>
  gd t14 false (nt t17) fun t18 =>
  pk t14 (.bool true) t18 fun t19 =>
  gd t19 false (idv t2) fun t21 =>
  gd t19 false (idv t1) fun t22 =>
  gd t19 false (le .i64 t21 t22) fun t23 =>
  pk t19 (.bool true) t23 fun t24 =>
  cnd t24 (
    rt (.int .i64 0)
    ) (
    dr <|
    ldn 2 t3 fun t25 =>
    idv t2 fun t26 =>
    ldn 2 t3 fun t28 =>
    idv t1 fun t29 =>
    fa 0 t3 fun t32 =>
    ld t32 fun t33 =>
    cl (f23 t25 t26) fun t27 =>
    kp (Kld t32 t33) <|
    kp (Kldn 2 t3 t28) <|
    cl (f23 t28 t29) fun t30 =>
    kp (Kld t32 t33) <|
    su .i64 t27 t30 fun t31 =>
    qu .i64 t31 t33 fun t34 =>
    idv t34 fun t6 =>
    rt t6
    )
theorem s15 (t0 t1 t2 : Value) (w : World) (Q : Value → World → Prop) (h : f15 t0 t1 t2 w Q) : Calls Try.prog 15 #[t0, t1, t2] w (Rt Q) := by
  refine calls_of (l := [t0, t1, t2]) Try.func15 rfl Try.ntmps15 (Nat.le_of_ble_eq_true rfl) ?_
  unfold f15 at h
  refine wp_seq ?_
  refine L_region ?_
  refine L_u (P_bx h) ?_
  intro v w h
  refine L_as ?_
  refine L_nil ?_
  refine E_n ?_
  refine wp_seq ?_
  refine wp_seq ?_
  refine L_region ?_
  refine L_u (P_ldn ag27 h) ?_
  intro v w h
  refine L_u (N_cl Try.func11 rfl nn11 (fun w Q h => s11 _ w Q h) h) ?_
  intro v w h
  refine L_u (P_nt h) ?_
  intro v w h
  refine L_mv ?_
  refine L_g (t := 10) h rfl rfl (fun c h => P_mv h c) ?_
  intro v w h
  refine L_g (t := 10) h rfl rfl (fun c h => N_cl Try.func22 rfl nn22 (fun w Q h => s22 _ w Q h) h c) ?_
  intro v w h
  refine L_g (t := 10) h rfl rfl (fun c h => P_nt h c) ?_
  intro v w h
  refine L_u (P_pk h) ?_
  intro v w h
  refine L_mv ?_
  refine L_g (t := 15) h rfl rfl (fun c h => P_mv h c) ?_
  intro v w h
  refine L_g (t := 15) h rfl rfl (fun c h => N_cl Try.func22 rfl nn22 (fun w Q h => s22 _ w Q h) h c) ?_
  intro v w h
  refine L_g (t := 15) h rfl rfl (fun c h => P_nt h c) ?_
  intro v w h
  refine L_u (P_pk h) ?_
  intro v w h
  refine L_mv ?_
  refine L_g (t := 20) h rfl rfl (fun c h => P_mv h c) ?_
  intro v w h
  refine L_g (t := 20) h rfl rfl (fun c h => P_mv h c) ?_
  intro v w h
  refine L_g (t := 20) h rfl rfl (fun c h => P_le h c) ?_
  intro v w h
  refine L_u (P_pk h) ?_
  intro v w h
  refine L_nil ?_
  refine E_n ?_
  refine C_cnd h (fun h => ?_) (fun h => ?_)
  · refine wp_seq ?_
    refine L_region ?_
    refine L_as ?_
    refine L_nil ?_
    refine E_n ?_
    refine C_ret ?_
    show bodyPost Try.prog Try.f15 (Rt Q) .ret _ _
    exact post_tmps (ts := [6]) (.inr rfl) rfl h
  · refine C_skip ?_
    refine E_n ?_
    refine wp_seq ?_
    refine D_region (by decide +kernel) 11 rfl ?_
    replace h := dr_e h
    refine G_r _ 0 rfl (by decide +kernel) (R_ldn ag27 h) ?_
    intro v h
    refine G_p 1 rfl (by decide +kernel) (Y_mv h) ?_
    intro v h
    refine G_r _ 3 rfl (by decide +kernel) (R_ldn ag27 h) ?_
    intro v h
    refine G_p 4 rfl (by decide +kernel) (Y_mv h) ?_
    intro v h
    refine G_p 7 rfl (by decide +kernel) (Y_fa fo27_0 h) ?_
    intro v h
    refine G_r _ 8 rfl (by decide +kernel) (R_ld sc2 h) ?_
    intro v h
    refine G_e 2 rfl (by decide +kernel) (N_cl Try.func23 rfl nn23 (fun w Q h => s23 _ _ w Q h) h ?_)
    intro v w h
    refine ⟨keepF_cons (kp_1 h) (keepF_cons (kp_1 (kp_2 h)) (keepF_dep [0] (by decide +kernel) rfl keepF_nil)), ?_⟩
    replace h := (kp_2 (kp_2 h))
    refine G_e 5 rfl (by decide +kernel) (N_cl Try.func23 rfl nn23 (fun w Q h => s23 _ _ w Q h) h ?_)
    intro v w h
    refine ⟨keepF_cons (kp_1 h) (keepF_dep [3] (by decide +kernel) rfl (keepF_dep [2, 0] (by decide +kernel) rfl keepF_nil)), ?_⟩
    replace h := (kp_2 h)
    refine G_p 6 rfl (by decide +kernel) (Y_su h) ?_
    intro v h
    refine G_p 9 rfl (by decide +kernel) (Y_qu h) ?_
    intro v h
    refine G_p 10 rfl (by decide +kernel) (Y_as h) ?_
    intro v h
    refine G_done (by decide +kernel) ?_
    refine E_n ?_
    refine C_ret ?_
    show bodyPost Try.prog Try.f15 (Rt Q) .ret _ _
    exact post_tmps (ts := [6]) (.inr rfl) rfl h

/- factotum/clock.gcd -/
def f26_b2 (j1 : Value → M) (self2 : Value → Value → M) (t0_1 t1_1 : Value) : M :=
  nei .i64 t1_1 (.int .i64 0) fun t6 =>
  cnd t6 (
    dr <|
    idv t1_1 fun t7 =>
    idv t0_1 fun t8 =>
    idv t1_1 fun t9 =>
    re .i64 t8 t9 fun t10 =>
    idv t7 fun t0_2 =>
    idv t10 fun t1_2 =>
    self2 t0_2 t1_2
    ) (
    j1 t0_1
    )
def f26_j1 (t0_3 : Value) : M :=
  rt t0_3
def f26 (t0 t1 : Value) : M :=
  jn (fun (j1 : Value → M) =>
    lo (fun _ _ => bot) (f26_b2 j1) (fun l => l t0 t1)
    ) (f26_j1)
theorem s26 (t0 t1 : Value) (w : World) (Q : Value → World → Prop) (h : f26 t0 t1 w Q) : Calls Try.prog 26 #[t0, t1] w (Rt Q) := by
  refine calls_of (l := [t0, t1]) Try.func26 rfl Try.ntmps26 (Nat.le_of_ble_eq_true rfl) ?_
  unfold f26 at h
  refine wp_seq ?_
  refine L_region ?_
  refine L_as ?_
  refine L_nil ?_
  refine E_n ?_
  refine wp_seq ?_
  refine C_join (fun (k : Value → M) (ρ : Nat → Value) => k (ρ 0)) h (fun j1 J1 h => ?_) (fun ρ w h => ?_)
  · refine C_blk ?_
    refine C_lo (fun (l : Value → Value → M) (ρ : Nat → Value) => l (ρ 0) (ρ 1)) h (fun ρ w h => h) (fun nx self2 L2 ρ w h => ?_)
    unfold f26_b2 at h
    refine wp_seq ?_
    refine wp_seq ?_
    refine L_region ?_
    refine L_mv ?_
    refine L_u (P_nei h) ?_
    intro v w h
    refine L_nil ?_
    refine E_n ?_
    refine C_cnd h (fun h => ?_) (fun h => ?_)
    · refine C_skip ?_
      refine E_n ?_
      refine C_blk ?_
      refine D_region (by decide +kernel) 6 rfl ?_
      replace h := dr_e h
      refine G_p 0 rfl (by decide +kernel) (Y_mv h) ?_
      intro v h
      refine G_p 1 rfl (by decide +kernel) (Y_mv h) ?_
      intro v h
      refine G_p 2 rfl (by decide +kernel) (Y_mv h) ?_
      intro v h
      refine G_p 3 rfl (by decide +kernel) (Y_re h) ?_
      intro v h
      refine G_p 4 rfl (by decide +kernel) (Y_as h) ?_
      intro v h
      refine G_p 5 rfl (by decide +kernel) (Y_as h) ?_
      intro v h
      refine G_done (by decide +kernel) ?_
      refine B_n ?_
      refine E_n ?_
      exact L2 _ _ h
    · refine C_exit ?_
      refine E_x ?_
      refine E_x ?_
      refine B_x ?_
      exact J1 _ _ h
  · unfold f26_j1 at h
    refine E_n ?_
    refine wp_seq ?_
    refine L_region ?_
    refine L_mv ?_
    refine L_as ?_
    refine L_nil ?_
    refine E_n ?_
    refine C_ret ?_
    show bodyPost Try.prog Try.f26 (Rt Q) .ret _ _
    exact post_tmps (ts := [4]) (.inr rfl) rfl h

/- factotum/clock.inverse -/
def f32_b2 (j1 : Value → Value → M) (self2 : Value → Value → Value → Value → Value → M) (t1_1 t5 t6 t7 t8 : Value) : M :=
  nei .i64 t8 (.int .i64 0) fun t15 =>
  cnd t15 (
    qu .i64 t7 t8 fun t18 =>
    mu .i64 t18 t8 fun t23 =>
    su .i64 t7 t23 fun t24 =>
    mu .i64 t18 t6 fun t29 =>
    su .i64 t5 t29 fun t30 =>
    self2 t1_1 t6 t30 t8 t24
    ) (
    j1 t1_1 t5
    )
def f32_j1 (t1_2 t5_1 : Value) : M :=
  cl (f27 t5_1 t1_2) fun t33 =>
  rt t33
def f32 (t0 t1 : Value) : M :=
  cl (f27 t0 t1) fun t12 =>
  jn (fun (j1 : Value → Value → M) =>
    lo (fun _ _ _ _ _ => bot) (f32_b2 j1) (fun l => l t1 (.int .i64 1) (.int .i64 0) t12 t1)
    ) (f32_j1)
theorem s32 (t0 t1 : Value) (w : World) (Q : Value → World → Prop) (h : f32 t0 t1 w Q) : Calls Try.prog 32 #[t0, t1] w (Rt Q) := by
  refine calls_of (l := [t0, t1]) Try.func32 rfl Try.ntmps32 (Nat.le_of_ble_eq_true rfl) ?_
  unfold f32 at h
  refine wp_seq ?_
  refine L_region ?_
  refine L_as ?_
  refine L_nil ?_
  refine E_n ?_
  refine wp_seq ?_
  refine L_region ?_
  refine L_mv ?_
  refine L_mv ?_
  refine L_u (N_cl Try.func27 rfl nn27 (fun w Q h => s27 _ _ w Q h) h) ?_
  intro v w h
  refine L_mv ?_
  refine L_as ?_
  refine L_as ?_
  refine L_as ?_
  refine L_as ?_
  refine L_nil ?_
  refine E_n ?_
  refine wp_seq ?_
  refine C_join (fun (k : Value → Value → M) (ρ : Nat → Value) => k (ρ 1) (ρ 5)) h (fun j1 J1 h => ?_) (fun ρ w h => ?_)
  · refine C_blk ?_
    refine C_lo (fun (l : Value → Value → Value → Value → Value → M) (ρ : Nat → Value) => l (ρ 1) (ρ 5) (ρ 6) (ρ 7) (ρ 8)) h (fun ρ w h => h) (fun nx self2 L2 ρ w h => ?_)
    unfold f32_b2 at h
    refine wp_seq ?_
    refine wp_seq ?_
    refine L_region ?_
    refine L_mv ?_
    refine L_u (P_nei h) ?_
    intro v w h
    refine L_nil ?_
    refine E_n ?_
    refine C_cnd h (fun h => ?_) (fun h => ?_)
    · refine C_skip ?_
      refine E_n ?_
      refine C_blk ?_
      refine wp_seq ?_
      refine L_region ?_
      refine L_mv ?_
      refine L_mv ?_
      refine L_u (P_qu h) ?_
      intro v w h
      refine L_as ?_
      refine L_nil ?_
      refine E_n ?_
      refine wp_seq ?_
      refine L_region ?_
      refine L_mv ?_
      refine L_mv ?_
      refine L_mv ?_
      refine L_mv ?_
      refine L_u (P_mu h) ?_
      intro v w h
      refine L_u (P_su h) ?_
      intro v w h
      refine L_as ?_
      refine L_as ?_
      refine L_nil ?_
      refine E_n ?_
      refine L_region ?_
      refine L_mv ?_
      refine L_mv ?_
      refine L_mv ?_
      refine L_mv ?_
      refine L_u (P_mu h) ?_
      intro v w h
      refine L_u (P_su h) ?_
      intro v w h
      refine L_as ?_
      refine L_as ?_
      refine L_nil ?_
      refine B_n ?_
      refine E_n ?_
      exact L2 _ _ h
    · refine C_exit ?_
      refine E_x ?_
      refine E_x ?_
      refine B_x ?_
      exact J1 _ _ h
  · unfold f32_j1 at h
    refine E_n ?_
    refine wp_seq ?_
    refine L_region ?_
    refine L_mv ?_
    refine L_mv ?_
    refine L_u (N_cl Try.func27 rfl nn27 (fun w Q h => s27 _ _ w Q h) h) ?_
    intro v w h
    refine L_as ?_
    refine L_nil ?_
    refine E_n ?_
    refine C_ret ?_
    show bodyPost Try.prog Try.f32 (Rt Q) .ret _ _
    exact post_tmps (ts := [4]) (.inr rfl) rfl h

/- factotum/clock.meet -/
def f28 (t0 t1 t2 t3 : Value) : M :=
  bx 27 t0 fun t4 =>
  bx 27 t1 fun t5 =>
  al 27 #[(.int .i64 0), (.int .i64 0)] fun t8 =>
  dr <|
  fa 1 t5 fun t12 =>
  ld t12 fun t13 =>
  fa 1 t4 fun t14 =>
  ld t14 fun t15 =>
  su .i64 t13 t15 fun t16 =>
  idv t2 fun t17 =>
  qu .i64 t16 t17 fun t18 =>
  idv t3 fun t19 =>
  fa 0 t4 fun t21 =>
  ld t21 fun t22 =>
  idv t2 fun t23 =>
  qu .i64 t22 t23 fun t24 =>
  idv t3 fun t25 =>
  idv t3 fun t28 =>
  cl (f27 t18 t19) fun t20 =>
  kp (Kld t21 t22) <|
  cl (f32 t24 t25) fun t26 =>
  mu .i64 t20 t26 fun t27 =>
  re .i64 t27 t28 fun t29 =>
  idv t29 fun t10 =>
  fa 0 t4 fun t30 =>
  ld t30 fun t31 =>
  mu .i64 t31 t3 fun t33 =>
  fa 1 t4 fun t35 =>
  ld t35 fun t36 =>
  fa 0 t4 fun t37 =>
  ld t37 fun t38 =>
  mu .i64 t38 t10 fun t40 =>
  ad .i64 t36 t40 fun t41 =>
  cl (f27 t41 t33) fun t43 =>
  smr Try.prog (Instr.build 27 #[(0, t33), (1, t43)]) fun t44 =>
  stn 2 t8 t44 <|
  ldn 2 t8 fun r0 =>
  rt (.tuple #[r0, (.bool true)])
theorem s28 (t0 t1 t2 t3 : Value) (w : World) (Q : Value → World → Prop) (h : f28 t0 t1 t2 t3 w Q) : Calls Try.prog 28 #[t0, t1, t2, t3] w (Rt Q) := by
  refine calls_of (l := [t0, t1, t2, t3]) Try.func28 rfl Try.ntmps28 (Nat.le_of_ble_eq_true rfl) ?_
  unfold f28 at h
  refine wp_seq ?_
  refine L_region ?_
  refine L_u (P_bx h) ?_
  intro v w h
  refine L_u (P_bx h) ?_
  intro v w h
  refine L_u (P_al ze27 rfl h) ?_
  intro v w h
  refine L_as ?_
  refine L_nil ?_
  refine E_n ?_
  refine wp_seq ?_
  refine D_region (by decide +kernel) 19 rfl ?_
  replace h := dr_e h
  refine G_p 0 rfl (by decide +kernel) (Y_fa fo27_1 h) ?_
  intro v h
  refine G_r _ 1 rfl (by decide +kernel) (R_ld sc2 h) ?_
  intro v h
  refine G_p 2 rfl (by decide +kernel) (Y_fa fo27_1 h) ?_
  intro v h
  refine G_r _ 3 rfl (by decide +kernel) (R_ld sc2 h) ?_
  intro v h
  refine G_p 4 rfl (by decide +kernel) (Y_su h) ?_
  intro v h
  refine G_p 5 rfl (by decide +kernel) (Y_mv h) ?_
  intro v h
  refine G_p 6 rfl (by decide +kernel) (Y_qu h) ?_
  intro v h
  refine G_p 7 rfl (by decide +kernel) (Y_mv h) ?_
  intro v h
  refine G_p 9 rfl (by decide +kernel) (Y_fa fo27_0 h) ?_
  intro v h
  refine G_r _ 10 rfl (by decide +kernel) (R_ld sc2 h) ?_
  intro v h
  refine G_p 11 rfl (by decide +kernel) (Y_mv h) ?_
  intro v h
  refine G_p 12 rfl (by decide +kernel) (Y_qu h) ?_
  intro v h
  refine G_p 13 rfl (by decide +kernel) (Y_mv h) ?_
  intro v h
  refine G_p 16 rfl (by decide +kernel) (Y_mv h) ?_
  intro v h
  refine G_e 8 rfl (by decide +kernel) (N_cl Try.func27 rfl nn27 (fun w Q h => s27 _ _ w Q h) h ?_)
  intro v w h
  refine ⟨keepF_cons (kp_1 h) (keepF_dep [6, 4, 3] (by decide +kernel) rfl (keepF_dep [6, 4, 1] (by decide +kernel) rfl keepF_nil)), ?_⟩
  replace h := (kp_2 h)
  refine G_e 14 rfl (by decide +kernel) (N_cl Try.func32 rfl nn32 (fun w Q h => s32 _ _ w Q h) h ?_)
  intro v w h
  refine ⟨keepF_dep [12, 10] (by decide +kernel) rfl (keepF_dep [8, 6, 4, 3] (by decide +kernel) rfl (keepF_dep [8, 6, 4, 1] (by decide +kernel) rfl keepF_nil)), ?_⟩
  refine G_p 15 rfl (by decide +kernel) (Y_mu h) ?_
  intro v h
  refine G_p 17 rfl (by decide +kernel) (Y_re h) ?_
  intro v h
  refine G_p 18 rfl (by decide +kernel) (Y_as h) ?_
  intro v h
  refine G_done (by decide +kernel) ?_
  refine E_n ?_
  refine wp_seq ?_
  refine L_region ?_
  refine L_u (P_fa fo27_0 h) ?_
  intro v w h
  refine L_u (P_ld sc2 h) ?_
  intro v w h
  refine L_mv ?_
  refine L_u (P_mu h) ?_
  intro v w h
  refine L_as ?_
  refine L_nil ?_
  refine E_n ?_
  refine wp_seq ?_
  refine L_region ?_
  refine L_mv ?_
  refine L_u (P_fa fo27_1 h) ?_
  intro v w h
  refine L_u (P_ld sc2 h) ?_
  intro v w h
  refine L_u (P_fa fo27_0 h) ?_
  intro v w h
  refine L_u (P_ld sc2 h) ?_
  intro v w h
  refine L_mv ?_
  refine L_u (P_mu h) ?_
  intro v w h
  refine L_u (P_ad h) ?_
  intro v w h
  refine L_mv ?_
  refine L_u (N_cl Try.func27 rfl nn27 (fun w Q h => s27 _ _ w Q h) h) ?_
  intro v w h
  refine L_u (N_bld h) ?_
  intro v w h
  refine L_u (P_stn ag27 h) ?_
  intro w h
  refine L_as ?_
  refine L_nil ?_
  refine E_n ?_
  refine C_ret ?_
  show bodyPost Try.prog Try.f28 (Rt Q) .ret _ _
  refine post_res [.cell 8 27, .tmp 9] (.inr rfl) rfl ?_
  refine res_ldn 8 27 ag27 (by exact h) (fun _ hr0 h => ?_)
  exact ⟨[_, _], ⟨hr0, rv_tmp, trivial⟩, h⟩

/- factotum/clock.Meet -/
def f17_j1 (t2_1 t3_1 t4_1 : Value) : M :=
  fa 0 t2_1 fun t24 =>
  ld t24 fun t25 =>
  fa 0 t3_1 fun t26 =>
  ld t26 fun t27 =>
  cl (f26 t25 t27) fun t28 =>
  fa 0 t3_1 fun t29 =>
  ld t29 fun t30 =>
  qu .i64 t30 t28 fun t32 =>
  fa 0 t2_1 fun t34 =>
  ld t34 fun t35 =>
  qu .i64 (.int .i64 1099511627776) t35 fun t36 =>
  gt .i64 t32 t36 fun t37 =>
  gd t37 false (fa 1 t2_1) fun t39 =>
  gd t37 false (ld t39) fun t40 =>
  gd t37 false (fa 1 t3_1) fun t41 =>
  gd t37 false (ld t41) fun t42 =>
  gd t37 false (su .i64 t40 t42) fun t43 =>
  gd t37 false (idv t28) fun t44 =>
  gd t37 false (cl (f27 t43 t44)) fun t45 =>
  gd t37 false (nei .i64 t45 (.int .i64 0)) fun t46 =>
  pk t37 (.bool true) t46 fun t47 =>
  cnd t47 (
    smr Try.prog (Instr.build 27 #[]) fun t48 =>
    stn 2 t4_1 t48 <|
    ldn 2 t4_1 fun r0 =>
    rt (.tuple #[r0, (.bool false)])
    ) (
    ldn 2 t2_1 fun t49 =>
    ldn 2 t3_1 fun t50 =>
    cl (f28 t49 t50 t28 t32) fun t53 =>
    ex 0 t53 fun t54 =>
    ex 1 t53 fun t55 =>
    stn 2 t4_1 t54 <|
    ldn 2 t4_1 fun r0 =>
    rt (.tuple #[r0, t55])
    )
def f17 (t0 t1 : Value) : M :=
  bx 27 t0 fun t2 =>
  bx 27 t1 fun t3 =>
  al 27 #[(.int .i64 0), (.int .i64 0)] fun t4 =>
  ldn 2 t2 fun t8 =>
  cl (f11 t8) fun t9 =>
  nt t9 fun t10 =>
  gd t10 false (ldn 2 t3) fun t12 =>
  gd t10 false (cl (f11 t12)) fun t13 =>
  gd t10 false (nt t13) fun t14 =>
  pk t10 (.bool true) t14 fun t15 =>
  cnd t15 (
    smr Try.prog (Instr.build 27 #[]) fun t16 =>
    stn 2 t4 t16 <|
    ldn 2 t4 fun r0 =>
    rt (.tuple #[r0, (.bool false)])
    ) (
    fa 0 t2 fun t17 =>
    ld t17 fun t18 =>
    fa 0 t3 fun t19 =>
    ld t19 fun t20 =>
    lt .i64 t18 t20 fun t21 =>
    jn (fun (j1 : Value → Value → Value → M) =>
      cnd t21 (
        ldn 2 t3 fun t22 =>
        ldn 2 t2 fun t23 =>
        stn 2 t2 t22 <|
        stn 2 t3 t23 <|
        j1 t2 t3 t4
        ) (
        j1 t2 t3 t4
        )
      ) (f17_j1)
    )
theorem s17 (t0 t1 : Value) (w : World) (Q : Value → World → Prop) (h : f17 t0 t1 w Q) : Calls Try.prog 17 #[t0, t1] w (Rt Q) := by
  refine calls_of (l := [t0, t1]) Try.func17 rfl Try.ntmps17 (Nat.le_of_ble_eq_true rfl) ?_
  unfold f17 at h
  refine wp_seq ?_
  refine L_region ?_
  refine L_u (P_bx h) ?_
  intro v w h
  refine L_u (P_bx h) ?_
  intro v w h
  refine L_u (P_al ze27 rfl h) ?_
  intro v w h
  refine L_as ?_
  refine L_nil ?_
  refine E_n ?_
  refine wp_seq ?_
  refine wp_seq ?_
  refine L_region ?_
  refine L_u (P_ldn ag27 h) ?_
  intro v w h
  refine L_u (N_cl Try.func11 rfl nn11 (fun w Q h => s11 _ w Q h) h) ?_
  intro v w h
  refine L_u (P_nt h) ?_
  intro v w h
  refine L_mv ?_
  refine L_g (t := 11) h rfl rfl (fun c h => P_ldn ag27 h c) ?_
  intro v w h
  refine L_g (t := 11) h rfl rfl (fun c h => N_cl Try.func11 rfl nn11 (fun w Q h => s11 _ w Q h) h c) ?_
  intro v w h
  refine L_g (t := 11) h rfl rfl (fun c h => P_nt h c) ?_
  intro v w h
  refine L_u (P_pk h) ?_
  intro v w h
  refine L_nil ?_
  refine E_n ?_
  refine C_cnd h (fun h => ?_) (fun h => ?_)
  · refine wp_seq ?_
    refine L_region ?_
    refine L_u (N_bld h) ?_
    intro v w h
    refine L_u (P_stn ag27 h) ?_
    intro w h
    refine L_as ?_
    refine L_nil ?_
    refine E_n ?_
    refine C_ret ?_
    show bodyPost Try.prog Try.f17 (Rt Q) .ret _ _
    refine post_res [.cell 4 27, .tmp 5] (.inr rfl) rfl ?_
    refine res_ldn 4 27 ag27 (by exact h) (fun _ hr0 h => ?_)
    exact ⟨[_, _], ⟨hr0, rv_tmp, trivial⟩, h⟩
  · refine C_skip ?_
    refine E_n ?_
    refine wp_seq ?_
    refine wp_seq ?_
    refine L_region ?_
    refine L_u (P_fa fo27_0 h) ?_
    intro v w h
    refine L_u (P_ld sc2 h) ?_
    intro v w h
    refine L_u (P_fa fo27_0 h) ?_
    intro v w h
    refine L_u (P_ld sc2 h) ?_
    intro v w h
    refine L_u (P_lt h) ?_
    intro v w h
    refine L_nil ?_
    refine E_n ?_
    refine C_join (fun (k : Value → Value → Value → M) (ρ : Nat → Value) => k (ρ 2) (ρ 3) (ρ 4)) h (fun j1 J1 h => ?_) (fun ρ w h => ?_)
    · refine C_cnd h (fun h => ?_) (fun h => ?_)
      · refine L_region ?_
        refine L_u (P_ldn ag27 h) ?_
        intro v w h
        refine L_u (P_ldn ag27 h) ?_
        intro v w h
        refine L_u (P_stn ag27 h) ?_
        intro w h
        refine L_u (P_stn ag27 h) ?_
        intro w h
        refine L_nil ?_
        exact J1 _ _ h
      · refine C_skip ?_
        exact J1 _ _ h
    · unfold f17_j1 at h
      refine E_n ?_
      refine wp_seq ?_
      refine L_region ?_
      refine L_u (P_fa fo27_0 h) ?_
      intro v w h
      refine L_u (P_ld sc2 h) ?_
      intro v w h
      refine L_u (P_fa fo27_0 h) ?_
      intro v w h
      refine L_u (P_ld sc2 h) ?_
      intro v w h
      refine L_u (N_cl Try.func26 rfl nn26 (fun w Q h => s26 _ _ w Q h) h) ?_
      intro v w h
      refine L_as ?_
      refine L_nil ?_
      refine E_n ?_
      refine wp_seq ?_
      refine L_region ?_
      refine L_u (P_fa fo27_0 h) ?_
      intro v w h
      refine L_u (P_ld sc2 h) ?_
      intro v w h
      refine L_mv ?_
      refine L_u (P_qu h) ?_
      intro v w h
      refine L_as ?_
      refine L_nil ?_
      refine E_n ?_
      refine wp_seq ?_
      refine wp_seq ?_
      refine L_region ?_
      refine L_mv ?_
      refine L_u (P_fa fo27_0 h) ?_
      intro v w h
      refine L_u (P_ld sc2 h) ?_
      intro v w h
      refine L_u (P_qu h) ?_
      intro v w h
      refine L_u (P_gt h) ?_
      intro v w h
      refine L_mv ?_
      refine L_g (t := 38) h rfl rfl (fun c h => P_fa fo27_1 h c) ?_
      intro v w h
      refine L_g (t := 38) h rfl rfl (fun c h => P_ld sc2 h c) ?_
      intro v w h
      refine L_g (t := 38) h rfl rfl (fun c h => P_fa fo27_1 h c) ?_
      intro v w h
      refine L_g (t := 38) h rfl rfl (fun c h => P_ld sc2 h c) ?_
      intro v w h
      refine L_g (t := 38) h rfl rfl (fun c h => P_su h c) ?_
      intro v w h
      refine L_g (t := 38) h rfl rfl (fun c h => P_mv h c) ?_
      intro v w h
      refine L_g (t := 38) h rfl rfl (fun c h => N_cl Try.func27 rfl nn27 (fun w Q h => s27 _ _ w Q h) h c) ?_
      intro v w h
      refine L_g (t := 38) h rfl rfl (fun c h => P_nei h c) ?_
      intro v w h
      refine L_u (P_pk h) ?_
      intro v w h
      refine L_nil ?_
      refine E_n ?_
      refine C_cnd h (fun h => ?_) (fun h => ?_)
      · refine wp_seq ?_
        refine L_region ?_
        refine L_u (N_bld h) ?_
        intro v w h
        refine L_u (P_stn ag27 h) ?_
        intro w h
        refine L_as ?_
        refine L_nil ?_
        refine E_n ?_
        refine C_ret ?_
        show bodyPost Try.prog Try.f17 (Rt Q) .ret _ _
        refine post_res [.cell 4 27, .tmp 5] (.inr rfl) rfl ?_
        refine res_ldn 4 27 ag27 (by exact h) (fun _ hr0 h => ?_)
        exact ⟨[_, _], ⟨hr0, rv_tmp, trivial⟩, h⟩
      · refine C_skip ?_
        refine E_n ?_
        refine wp_seq ?_
        refine L_region ?_
        refine L_u (P_ldn ag27 h) ?_
        intro v w h
        refine L_u (P_ldn ag27 h) ?_
        intro v w h
        refine L_mv ?_
        refine L_mv ?_
        refine L_u (N_cl Try.func28 rfl nn28 (fun w Q h => s28 _ _ _ _ w Q h) h) ?_
        intro v w h
        refine L_u (P_ex h) ?_
        intro v w h
        refine L_u (P_ex h) ?_
        intro v w h
        refine L_u (P_stn ag27 h) ?_
        intro w h
        refine L_as ?_
        refine L_nil ?_
        refine E_n ?_
        refine C_ret ?_
        show bodyPost Try.prog Try.f17 (Rt Q) .ret _ _
        refine post_res [.cell 4 27, .tmp 5] (.inr rfl) rfl ?_
        refine res_ldn 4 27 ag27 (by exact h) (fun _ hr0 h => ?_)
        exact ⟨[_, _], ⟨hr0, rv_tmp, trivial⟩, h⟩

/- factotum/factotumlaw34.lives -/
def f7 : M :=
  smr Try.prog (Instr.build 27 #[(0, (.int .i64 10)), (1, (.int .i64 3))]) fun t6 =>
  cl (f8 t6 (.int .i64 3)) fun t7 =>
  ex 0 t7 fun t8 =>
  ex 1 t7 fun t9 =>
  smr Try.prog (Instr.build 27 #[(0, (.int .i64 4)), (1, (.int .i64 1))]) fun t11 =>
  smr Try.prog (Instr.build 27 #[(0, (.int .i64 6)), (1, (.int .i64 3))]) fun t12 =>
  cl (f17 t11 t12) fun t13 =>
  ex 0 t13 fun t14 =>
  ex 1 t13 fun t15 =>
  al 27 #[(.int .i64 0), (.int .i64 0)] fun t3 =>
  stn 2 t3 t14 <|
  gd t9 true (idv t8) fun t18 =>
  gd t9 true (eqi .i64 t18 (.int .i64 13)) fun t19 =>
  pk t9 t19 (.bool false) fun t20 =>
  gd t20 true (idv t15) fun t22 =>
  pk t20 t22 (.bool false) fun t23 =>
  gd t23 true (ldn 2 t3) fun t25 =>
  gd t23 true (smr Try.prog (Instr.build 27 #[(0, (.int .i64 12)), (1, (.int .i64 9))])) fun t26 =>
  gd t23 true (smr Try.prog (do eqGuard .eql 27 (.tmp 25) (.tmp 26) t25 t26; binOp .eql 27 t25 t26)) fun t27 =>
  pk t23 t27 (.bool false) fun t28 =>
  gd t28 true (smr Try.prog (Instr.build 27 #[(0, (.int .i64 10)), (1, (.int .i64 3))])) fun t30 =>
  gd t28 true (cl (f15 t30 (.int .i64 0) (.int .i64 24))) fun t31 =>
  gd t28 true (eqi .i64 t31 (.int .i64 3)) fun t32 =>
  pk t28 t32 (.bool false) fun t33 =>
  rt t33
theorem s7 (w : World) (Q : Value → World → Prop) (h : f7 w Q) : Calls Try.prog 7 #[] w (Rt Q) := by
  refine calls_of (l := []) Try.func7 rfl Try.ntmps7 (Nat.le_of_ble_eq_true rfl) ?_
  unfold f7 at h
  refine wp_seq ?_
  refine L_region ?_
  refine L_as ?_
  refine L_nil ?_
  refine E_n ?_
  refine wp_seq ?_
  refine L_region ?_
  refine L_u (N_bld h) ?_
  intro v w h
  refine L_u (N_cl Try.func8 rfl nn8 (fun w Q h => s8 _ _ w Q h) h) ?_
  intro v w h
  refine L_mv ?_
  refine L_u (P_ex h) ?_
  intro v w h
  refine L_u (P_ex h) ?_
  intro v w h
  refine L_as ?_
  refine L_as ?_
  refine L_nil ?_
  refine E_n ?_
  refine wp_seq ?_
  refine L_region ?_
  refine L_u (N_bld h) ?_
  intro v w h
  refine L_u (N_bld h) ?_
  intro v w h
  refine L_u (N_cl Try.func17 rfl nn17 (fun w Q h => s17 _ _ w Q h) h) ?_
  intro v w h
  refine L_mv ?_
  refine L_u (P_ex h) ?_
  intro v w h
  refine L_u (P_ex h) ?_
  intro v w h
  refine L_u (P_al ze27 rfl h) ?_
  intro v w h
  refine L_u (P_stn ag27 h) ?_
  intro w h
  refine L_as ?_
  refine L_nil ?_
  refine E_n ?_
  refine wp_seq ?_
  refine L_region ?_
  refine L_mv ?_
  refine L_mv ?_
  refine L_g (t := 17) h rfl rfl (fun c h => P_mv h c) ?_
  intro v w h
  refine L_g (t := 17) h rfl rfl (fun c h => P_eqi h c) ?_
  intro v w h
  refine L_u (P_pk h) ?_
  intro v w h
  refine L_mv ?_
  refine L_g (t := 21) h rfl rfl (fun c h => P_mv h c) ?_
  intro v w h
  refine L_u (P_pk h) ?_
  intro v w h
  refine L_mv ?_
  refine L_g (t := 24) h rfl rfl (fun c h => P_ldn ag27 h c) ?_
  intro v w h
  refine L_g (t := 24) h rfl rfl (fun c h => N_bld h c) ?_
  intro v w h
  refine L_g (t := 24) h rfl rfl (fun c h => P_smr rfl h c) ?_
  intro v w h
  refine L_u (P_pk h) ?_
  intro v w h
  refine L_mv ?_
  refine L_g (t := 29) h rfl rfl (fun c h => N_bld h c) ?_
  intro v w h
  refine L_g (t := 29) h rfl rfl (fun c h => N_cl Try.func15 rfl nn15 (fun w Q h => s15 _ _ _ w Q h) h c) ?_
  intro v w h
  refine L_g (t := 29) h rfl rfl (fun c h => P_eqi h c) ?_
  intro v w h
  refine L_u (P_pk h) ?_
  intro v w h
  refine L_as ?_
  refine L_nil ?_
  refine E_n ?_
  refine C_ret ?_
  show bodyPost Try.prog Try.f7 (Rt Q) .ret _ _
  exact post_tmps (ts := [0]) (.inr rfl) rfl h

/- factotum/factotumlaw34.as -/
def f9 (t0 : Value) : M :=
  bx 23 t0 fun t1 =>
  al 27 #[(.int .i64 0), (.int .i64 0)] fun t2 =>
  fa 0 t1 fun t3 =>
  ld t3 fun t4 =>
  fa 1 t1 fun t5 =>
  ld t5 fun t6 =>
  smr Try.prog (Instr.build 27 #[(0, t4), (1, t6)]) fun t7 =>
  stn 2 t2 t7 <|
  ldn 2 t2 fun r0 =>
  rt r0
theorem s9 (t0 : Value) (w : World) (Q : Value → World → Prop) (h : f9 t0 w Q) : Calls Try.prog 9 #[t0] w (Rt Q) := by
  refine calls_of (l := [t0]) Try.func9 rfl Try.ntmps9 (Nat.le_of_ble_eq_true rfl) ?_
  unfold f9 at h
  refine wp_seq ?_
  refine L_region ?_
  refine L_u (P_bx h) ?_
  intro v w h
  refine L_u (P_al ze27 rfl h) ?_
  intro v w h
  refine L_nil ?_
  refine E_n ?_
  refine wp_seq ?_
  refine L_region ?_
  refine L_u (P_fa fo23_0 h) ?_
  intro v w h
  refine L_u (P_ld sc2 h) ?_
  intro v w h
  refine L_u (P_fa fo23_1 h) ?_
  intro v w h
  refine L_u (P_ld sc2 h) ?_
  intro v w h
  refine L_u (N_bld h) ?_
  intro v w h
  refine L_u (P_stn ag27 h) ?_
  intro w h
  refine L_nil ?_
  refine E_n ?_
  refine C_ret ?_
  show bodyPost Try.prog Try.f9 (Rt Q) .ret _ _
  refine post_res [.cell 2 27] (.inr rfl) rfl ?_
  refine res_ldn 2 27 ag27 (by exact h) (fun _ hr0 h => ?_)
  exact ⟨[_], ⟨hr0, trivial⟩, h⟩

/- factotum/factotumref34.Right -/
def f12 (t0 : Value) : M :=
  bx 23 t0 fun t1 =>
  fa 0 t1 fun t3 =>
  ld t3 fun t4 =>
  ge .i64 t4 (.int .i64 1) fun t5 =>
  gd t5 true (fa 0 t1) fun t7 =>
  gd t5 true (ld t7) fun t8 =>
  gd t5 true (le .i64 t8 (.int .i64 1099511627776)) fun t9 =>
  pk t5 t9 (.bool false) fun t10 =>
  gd t10 true (fa 1 t1) fun t12 =>
  gd t10 true (ld t12) fun t13 =>
  gd t10 true (ge .i64 t13 (.int .i64 0)) fun t14 =>
  pk t10 t14 (.bool false) fun t15 =>
  gd t15 true (fa 1 t1) fun t17 =>
  gd t15 true (ld t17) fun t18 =>
  gd t15 true (fa 0 t1) fun t19 =>
  gd t15 true (ld t19) fun t20 =>
  gd t15 true (lt .i64 t18 t20) fun t21 =>
  pk t15 t21 (.bool false) fun t22 =>
  rt t22
theorem s12 (t0 : Value) (w : World) (Q : Value → World → Prop) (h : f12 t0 w Q) : Calls Try.prog 12 #[t0] w (Rt Q) := by
  refine calls_of (l := [t0]) Try.func12 rfl Try.ntmps12 (Nat.le_of_ble_eq_true rfl) ?_
  unfold f12 at h
  refine wp_seq ?_
  refine L_region ?_
  refine L_u (P_bx h) ?_
  intro v w h
  refine L_as ?_
  refine L_nil ?_
  refine E_n ?_
  refine wp_seq ?_
  refine L_region ?_
  refine L_u (P_fa fo23_0 h) ?_
  intro v w h
  refine L_u (P_ld sc2 h) ?_
  intro v w h
  refine L_u (P_ge h) ?_
  intro v w h
  refine L_mv ?_
  refine L_g (t := 6) h rfl rfl (fun c h => P_fa fo23_0 h c) ?_
  intro v w h
  refine L_g (t := 6) h rfl rfl (fun c h => P_ld sc2 h c) ?_
  intro v w h
  refine L_g (t := 6) h rfl rfl (fun c h => P_le h c) ?_
  intro v w h
  refine L_u (P_pk h) ?_
  intro v w h
  refine L_mv ?_
  refine L_g (t := 11) h rfl rfl (fun c h => P_fa fo23_1 h c) ?_
  intro v w h
  refine L_g (t := 11) h rfl rfl (fun c h => P_ld sc2 h c) ?_
  intro v w h
  refine L_g (t := 11) h rfl rfl (fun c h => P_ge h c) ?_
  intro v w h
  refine L_u (P_pk h) ?_
  intro v w h
  refine L_mv ?_
  refine L_g (t := 16) h rfl rfl (fun c h => P_fa fo23_1 h c) ?_
  intro v w h
  refine L_g (t := 16) h rfl rfl (fun c h => P_ld sc2 h c) ?_
  intro v w h
  refine L_g (t := 16) h rfl rfl (fun c h => P_fa fo23_0 h c) ?_
  intro v w h
  refine L_g (t := 16) h rfl rfl (fun c h => P_ld sc2 h c) ?_
  intro v w h
  refine L_g (t := 16) h rfl rfl (fun c h => P_lt h c) ?_
  intro v w h
  refine L_u (P_pk h) ?_
  intro v w h
  refine L_as ?_
  refine L_nil ?_
  refine E_n ?_
  refine C_ret ?_
  show bodyPost Try.prog Try.f12 (Rt Q) .ret _ _
  exact post_tmps (ts := [2]) (.inr rfl) rfl h

/- factotum/factotumref34.near -/
def f24 (t0 : Value) : M :=
  ge .i64 t0 (.int .i64 (-1152921504606846976)) fun t4 =>
  gd t4 true (idv t0) fun t6 =>
  gd t4 true (le .i64 t6 (.int .i64 1152921504606846976)) fun t7 =>
  pk t4 t7 (.bool false) fun t8 =>
  rt t8
theorem s24 (t0 : Value) (w : World) (Q : Value → World → Prop) (h : f24 t0 w Q) : Calls Try.prog 24 #[t0] w (Rt Q) := by
  refine calls_of (l := [t0]) Try.func24 rfl Try.ntmps24 (Nat.le_of_ble_eq_true rfl) ?_
  unfold f24 at h
  refine wp_seq ?_
  refine L_region ?_
  refine L_as ?_
  refine L_nil ?_
  refine E_n ?_
  refine wp_seq ?_
  refine L_region ?_
  refine L_mv ?_
  refine L_u (P_ge h) ?_
  intro v w h
  refine L_mv ?_
  refine L_g (t := 5) h rfl rfl (fun c h => P_mv h c) ?_
  intro v w h
  refine L_g (t := 5) h rfl rfl (fun c h => P_le h c) ?_
  intro v w h
  refine L_u (P_pk h) ?_
  intro v w h
  refine L_as ?_
  refine L_nil ?_
  refine E_n ?_
  refine C_ret ?_
  show bodyPost Try.prog Try.f24 (Rt Q) .ret _ _
  exact post_tmps (ts := [2]) (.inr rfl) rfl h

/- factotum/factotumref34.Next -/
def f10_b2 (j1 : Value → M) (self2 : Value → Value → Value → M) (t1_1 t2_1 t6 : Value) : M :=
  le .i64 t6 t1_1 fun t26 =>
  cnd t26 (
    fa 0 t2_1 fun t28 =>
    ld t28 fun t29 =>
    ad .i64 t6 t29 fun t30 =>
    self2 t1_1 t2_1 t30
    ) (
    j1 t6
    )
def f10_j1 (t6_1 : Value) : M :=
  rt (.tuple #[t6_1, (.bool true)])
def f10 (t0 t1 : Value) : M :=
  bx 23 t0 fun t2 =>
  ldn 2 t2 fun t7 =>
  cl (f12 t7) fun t8 =>
  nt t8 fun t9 =>
  gd t9 false (idv t1) fun t11 =>
  gd t9 false (cl (f24 t11)) fun t12 =>
  gd t9 false (nt t12) fun t13 =>
  pk t9 (.bool true) t13 fun t14 =>
  cnd t14 (
    rt (.tuple #[(.int .i64 0), (.bool false)])
    ) (
    fa 1 t2 fun t17 =>
    ld t17 fun t18 =>
    su .i64 t1 t18 fun t19 =>
    fa 0 t2 fun t20 =>
    ld t20 fun t21 =>
    re .i64 t19 t21 fun t22 =>
    su .i64 t1 t22 fun t23 =>
    jn (fun (j1 : Value → M) =>
      lo (fun _ _ _ => bot) (f10_b2 j1) (fun l => l t1 t2 t23)
      ) (f10_j1)
    )
theorem s10 (t0 t1 : Value) (w : World) (Q : Value → World → Prop) (h : f10 t0 t1 w Q) : Calls Try.prog 10 #[t0, t1] w (Rt Q) := by
  refine calls_of (l := [t0, t1]) Try.func10 rfl Try.ntmps10 (Nat.le_of_ble_eq_true rfl) ?_
  unfold f10 at h
  refine wp_seq ?_
  refine L_region ?_
  refine L_u (P_bx h) ?_
  intro v w h
  refine L_as ?_
  refine L_as ?_
  refine L_nil ?_
  refine E_n ?_
  refine wp_seq ?_
  refine wp_seq ?_
  refine L_region ?_
  refine L_u (P_ldn ag23 h) ?_
  intro v w h
  refine L_u (N_cl Try.func12 rfl nn12 (fun w Q h => s12 _ w Q h) h) ?_
  intro v w h
  refine L_u (P_nt h) ?_
  intro v w h
  refine L_mv ?_
  refine L_g (t := 10) h rfl rfl (fun c h => P_mv h c) ?_
  intro v w h
  refine L_g (t := 10) h rfl rfl (fun c h => N_cl Try.func24 rfl nn24 (fun w Q h => s24 _ w Q h) h c) ?_
  intro v w h
  refine L_g (t := 10) h rfl rfl (fun c h => P_nt h c) ?_
  intro v w h
  refine L_u (P_pk h) ?_
  intro v w h
  refine L_nil ?_
  refine E_n ?_
  refine C_cnd h (fun h => ?_) (fun h => ?_)
  · refine wp_seq ?_
    refine L_region ?_
    refine L_as ?_
    refine L_as ?_
    refine L_nil ?_
    refine E_n ?_
    refine C_ret ?_
    show bodyPost Try.prog Try.f10 (Rt Q) .ret _ _
    exact post_tmps (ts := [4, 5]) (.inr rfl) rfl h
  · refine C_skip ?_
    refine E_n ?_
    refine wp_seq ?_
    refine L_region ?_
    refine L_mv ?_
    refine L_mv ?_
    refine L_u (P_fa fo23_1 h) ?_
    intro v w h
    refine L_u (P_ld sc2 h) ?_
    intro v w h
    refine L_u (P_su h) ?_
    intro v w h
    refine L_u (P_fa fo23_0 h) ?_
    intro v w h
    refine L_u (P_ld sc2 h) ?_
    intro v w h
    refine L_u (P_re h) ?_
    intro v w h
    refine L_u (P_su h) ?_
    intro v w h
    refine L_as ?_
    refine L_nil ?_
    refine E_n ?_
    refine wp_seq ?_
    refine C_join (fun (k : Value → M) (ρ : Nat → Value) => k (ρ 6)) h (fun j1 J1 h => ?_) (fun ρ w h => ?_)
    · refine C_blk ?_
      refine C_lo (fun (l : Value → Value → Value → M) (ρ : Nat → Value) => l (ρ 1) (ρ 2) (ρ 6)) h (fun ρ w h => h) (fun nx self2 L2 ρ w h => ?_)
      unfold f10_b2 at h
      refine wp_seq ?_
      refine wp_seq ?_
      refine L_region ?_
      refine L_mv ?_
      refine L_mv ?_
      refine L_u (P_le h) ?_
      intro v w h
      refine L_nil ?_
      refine E_n ?_
      refine C_cnd h (fun h => ?_) (fun h => ?_)
      · refine C_skip ?_
        refine E_n ?_
        refine C_blk ?_
        refine L_region ?_
        refine L_mv ?_
        refine L_u (P_fa fo23_0 h) ?_
        intro v w h
        refine L_u (P_ld sc2 h) ?_
        intro v w h
        refine L_u (P_ad h) ?_
        intro v w h
        refine L_as ?_
        refine L_nil ?_
        refine B_n ?_
        refine E_n ?_
        exact L2 _ _ h
      · refine C_exit ?_
        refine E_x ?_
        refine E_x ?_
        refine B_x ?_
        exact J1 _ _ h
    · unfold f10_j1 at h
      refine E_n ?_
      refine wp_seq ?_
      refine L_region ?_
      refine L_mv ?_
      refine L_as ?_
      refine L_as ?_
      refine L_nil ?_
      refine E_n ?_
      refine C_ret ?_
      show bodyPost Try.prog Try.f10 (Rt Q) .ret _ _
      exact post_tmps (ts := [4, 5]) (.inr rfl) rfl h

/- factotum/clock.Is -/
def f13 (t0 t1 : Value) : M :=
  bx 27 t0 fun t2 =>
  ldn 2 t2 fun t5 =>
  cl (f11 t5) fun t6 =>
  gd t6 true (idv t1) fun t8 =>
  gd t6 true (cl (f22 t8)) fun t9 =>
  pk t6 t9 (.bool false) fun t10 =>
  gd t10 true (ldn 2 t2) fun t12 =>
  gd t10 true (idv t1) fun t13 =>
  gd t10 true (cl (f23 t12 t13)) fun t14 =>
  gd t10 true (idv t1) fun t15 =>
  gd t10 true (eqi .i64 t14 t15) fun t16 =>
  pk t10 t16 (.bool false) fun t17 =>
  rt t17
theorem s13 (t0 t1 : Value) (w : World) (Q : Value → World → Prop) (h : f13 t0 t1 w Q) : Calls Try.prog 13 #[t0, t1] w (Rt Q) := by
  refine calls_of (l := [t0, t1]) Try.func13 rfl Try.ntmps13 (Nat.le_of_ble_eq_true rfl) ?_
  unfold f13 at h
  refine wp_seq ?_
  refine L_region ?_
  refine L_u (P_bx h) ?_
  intro v w h
  refine L_as ?_
  refine L_nil ?_
  refine E_n ?_
  refine wp_seq ?_
  refine L_region ?_
  refine L_u (P_ldn ag27 h) ?_
  intro v w h
  refine L_u (N_cl Try.func11 rfl nn11 (fun w Q h => s11 _ w Q h) h) ?_
  intro v w h
  refine L_mv ?_
  refine L_g (t := 7) h rfl rfl (fun c h => P_mv h c) ?_
  intro v w h
  refine L_g (t := 7) h rfl rfl (fun c h => N_cl Try.func22 rfl nn22 (fun w Q h => s22 _ w Q h) h c) ?_
  intro v w h
  refine L_u (P_pk h) ?_
  intro v w h
  refine L_mv ?_
  refine L_g (t := 11) h rfl rfl (fun c h => P_ldn ag27 h c) ?_
  intro v w h
  refine L_g (t := 11) h rfl rfl (fun c h => P_mv h c) ?_
  intro v w h
  refine L_g (t := 11) h rfl rfl (fun c h => N_cl Try.func23 rfl nn23 (fun w Q h => s23 _ _ w Q h) h c) ?_
  intro v w h
  refine L_g (t := 11) h rfl rfl (fun c h => P_mv h c) ?_
  intro v w h
  refine L_g (t := 11) h rfl rfl (fun c h => P_eqi h c) ?_
  intro v w h
  refine L_u (P_pk h) ?_
  intro v w h
  refine L_as ?_
  refine L_nil ?_
  refine E_n ?_
  refine C_ret ?_
  show bodyPost Try.prog Try.f13 (Rt Q) .ret _ _
  exact post_tmps (ts := [4]) (.inr rfl) rfl h

/- factotum/factotumref34.Is -/
def f14 (t0 t1 : Value) : M :=
  bx 23 t0 fun t2 =>
  ldn 2 t2 fun t5 =>
  cl (f12 t5) fun t6 =>
  gd t6 true (idv t1) fun t8 =>
  gd t6 true (cl (f24 t8)) fun t9 =>
  pk t6 t9 (.bool false) fun t10 =>
  gd t10 true (idv t1) fun t12 =>
  gd t10 true (fa 1 t2) fun t13 =>
  gd t10 true (ld t13) fun t14 =>
  gd t10 true (su .i64 t12 t14) fun t15 =>
  gd t10 true (fa 0 t2) fun t16 =>
  gd t10 true (ld t16) fun t17 =>
  gd t10 true (re .i64 t15 t17) fun t18 =>
  gd t10 true (eqi .i64 t18 (.int .i64 0)) fun t19 =>
  pk t10 t19 (.bool false) fun t20 =>
  rt t20
theorem s14 (t0 t1 : Value) (w : World) (Q : Value → World → Prop) (h : f14 t0 t1 w Q) : Calls Try.prog 14 #[t0, t1] w (Rt Q) := by
  refine calls_of (l := [t0, t1]) Try.func14 rfl Try.ntmps14 (Nat.le_of_ble_eq_true rfl) ?_
  unfold f14 at h
  refine wp_seq ?_
  refine L_region ?_
  refine L_u (P_bx h) ?_
  intro v w h
  refine L_as ?_
  refine L_nil ?_
  refine E_n ?_
  refine wp_seq ?_
  refine L_region ?_
  refine L_u (P_ldn ag23 h) ?_
  intro v w h
  refine L_u (N_cl Try.func12 rfl nn12 (fun w Q h => s12 _ w Q h) h) ?_
  intro v w h
  refine L_mv ?_
  refine L_g (t := 7) h rfl rfl (fun c h => P_mv h c) ?_
  intro v w h
  refine L_g (t := 7) h rfl rfl (fun c h => N_cl Try.func24 rfl nn24 (fun w Q h => s24 _ w Q h) h c) ?_
  intro v w h
  refine L_u (P_pk h) ?_
  intro v w h
  refine L_mv ?_
  refine L_g (t := 11) h rfl rfl (fun c h => P_mv h c) ?_
  intro v w h
  refine L_g (t := 11) h rfl rfl (fun c h => P_fa fo23_1 h c) ?_
  intro v w h
  refine L_g (t := 11) h rfl rfl (fun c h => P_ld sc2 h c) ?_
  intro v w h
  refine L_g (t := 11) h rfl rfl (fun c h => P_su h c) ?_
  intro v w h
  refine L_g (t := 11) h rfl rfl (fun c h => P_fa fo23_0 h c) ?_
  intro v w h
  refine L_g (t := 11) h rfl rfl (fun c h => P_ld sc2 h c) ?_
  intro v w h
  refine L_g (t := 11) h rfl rfl (fun c h => P_re h c) ?_
  intro v w h
  refine L_g (t := 11) h rfl rfl (fun c h => P_eqi h c) ?_
  intro v w h
  refine L_u (P_pk h) ?_
  intro v w h
  refine L_as ?_
  refine L_nil ?_
  refine E_n ?_
  refine C_ret ?_
  show bodyPost Try.prog Try.f14 (Rt Q) .ret _ _
  exact post_tmps (ts := [4]) (.inr rfl) rfl h

/- factotum/factotumref34.ahead -/
def f25_j1 (t6 : Value) : M :=
  rt t6
def f25 (t0 t1 : Value) : M :=
  bx 23 t0 fun t2 =>
  su .i64 t1 (.int .i64 1) fun t8 =>
  fa 1 t2 fun t10 =>
  ld t10 fun t11 =>
  su .i64 t8 t11 fun t12 =>
  fa 0 t2 fun t13 =>
  ld t13 fun t14 =>
  qu .i64 t12 t14 fun t15 =>
  fa 1 t2 fun t17 =>
  ld t17 fun t18 =>
  su .i64 t8 t18 fun t19 =>
  fa 0 t2 fun t20 =>
  ld t20 fun t21 =>
  re .i64 t19 t21 fun t22 =>
  lt .i64 t22 (.int .i64 0) fun t23 =>
  jn (fun (j1 : Value → M) =>
    cnd t23 (
      su .i64 t15 (.int .i64 1) fun t25 =>
      j1 t25
      ) (
      j1 t15
      )
    ) (f25_j1)
theorem s25 (t0 t1 : Value) (w : World) (Q : Value → World → Prop) (h : f25 t0 t1 w Q) : Calls Try.prog 25 #[t0, t1] w (Rt Q) := by
  refine calls_of (l := [t0, t1]) Try.func25 rfl Try.ntmps25 (Nat.le_of_ble_eq_true rfl) ?_
  unfold f25 at h
  refine wp_seq ?_
  refine L_region ?_
  refine L_u (P_bx h) ?_
  intro v w h
  refine L_as ?_
  refine L_nil ?_
  refine E_n ?_
  refine wp_seq ?_
  refine L_region ?_
  refine L_mv ?_
  refine L_u (P_su h) ?_
  intro v w h
  refine L_as ?_
  refine L_nil ?_
  refine E_n ?_
  refine wp_seq ?_
  refine L_region ?_
  refine L_mv ?_
  refine L_u (P_fa fo23_1 h) ?_
  intro v w h
  refine L_u (P_ld sc2 h) ?_
  intro v w h
  refine L_u (P_su h) ?_
  intro v w h
  refine L_u (P_fa fo23_0 h) ?_
  intro v w h
  refine L_u (P_ld sc2 h) ?_
  intro v w h
  refine L_u (P_qu h) ?_
  intro v w h
  refine L_as ?_
  refine L_nil ?_
  refine E_n ?_
  refine wp_seq ?_
  refine wp_seq ?_
  refine L_region ?_
  refine L_mv ?_
  refine L_u (P_fa fo23_1 h) ?_
  intro v w h
  refine L_u (P_ld sc2 h) ?_
  intro v w h
  refine L_u (P_su h) ?_
  intro v w h
  refine L_u (P_fa fo23_0 h) ?_
  intro v w h
  refine L_u (P_ld sc2 h) ?_
  intro v w h
  refine L_u (P_re h) ?_
  intro v w h
  refine L_u (P_lt h) ?_
  intro v w h
  refine L_nil ?_
  refine E_n ?_
  refine C_join (fun (k : Value → M) (ρ : Nat → Value) => k (ρ 6)) h (fun j1 J1 h => ?_) (fun ρ w h => ?_)
  · refine C_cnd h (fun h => ?_) (fun h => ?_)
    · refine L_region ?_
      refine L_mv ?_
      refine L_u (P_su h) ?_
      intro v w h
      refine L_as ?_
      refine L_nil ?_
      exact J1 _ _ h
    · refine C_skip ?_
      exact J1 _ _ h
  · unfold f25_j1 at h
    refine E_n ?_
    refine wp_seq ?_
    refine L_region ?_
    refine L_mv ?_
    refine L_as ?_
    refine L_nil ?_
    refine E_n ?_
    refine C_ret ?_
    show bodyPost Try.prog Try.f25 (Rt Q) .ret _ _
    exact post_tmps (ts := [4]) (.inr rfl) rfl h

/- factotum/factotumref34.Count -/
def f16 (t0 t1 t2 : Value) : M :=
  bx 23 t0 fun t3 =>
  ldn 2 t3 fun t7 =>
  cl (f12 t7) fun t8 =>
  nt t8 fun t9 =>
  gd t9 false (idv t1) fun t11 =>
  gd t9 false (cl (f24 t11)) fun t12 =>
  gd t9 false (nt t12) fun t13 =>
  pk t9 (.bool true) t13 fun t14 =>
  gd t14 false (idv t2) fun t16 =>
  gd t14 false (cl (f24 t16)) fun t17 =>
  gd t14 false (nt t17) fun t18 =>
  pk t14 (.bool true) t18 fun t19 =>
  gd t19 false (idv t2) fun t21 =>
  gd t19 false (idv t1) fun t22 =>
  gd t19 false (le .i64 t21 t22) fun t23 =>
  pk t19 (.bool true) t23 fun t24 =>
  cnd t24 (
    rt (.int .i64 0)
    ) (
    dr <|
    ldn 2 t3 fun t25 =>
    idv t2 fun t26 =>
    ldn 2 t3 fun t28 =>
    idv t1 fun t29 =>
    cl (f25 t25 t26) fun t27 =>
    kp (Kldn 2 t3 t28) <|
    cl (f25 t28 t29) fun t30 =>
    su .i64 t27 t30 fun t31 =>
    idv t31 fun t6 =>
    rt t6
    )
theorem s16 (t0 t1 t2 : Value) (w : World) (Q : Value → World → Prop) (h : f16 t0 t1 t2 w Q) : Calls Try.prog 16 #[t0, t1, t2] w (Rt Q) := by
  refine calls_of (l := [t0, t1, t2]) Try.func16 rfl Try.ntmps16 (Nat.le_of_ble_eq_true rfl) ?_
  unfold f16 at h
  refine wp_seq ?_
  refine L_region ?_
  refine L_u (P_bx h) ?_
  intro v w h
  refine L_as ?_
  refine L_nil ?_
  refine E_n ?_
  refine wp_seq ?_
  refine wp_seq ?_
  refine L_region ?_
  refine L_u (P_ldn ag23 h) ?_
  intro v w h
  refine L_u (N_cl Try.func12 rfl nn12 (fun w Q h => s12 _ w Q h) h) ?_
  intro v w h
  refine L_u (P_nt h) ?_
  intro v w h
  refine L_mv ?_
  refine L_g (t := 10) h rfl rfl (fun c h => P_mv h c) ?_
  intro v w h
  refine L_g (t := 10) h rfl rfl (fun c h => N_cl Try.func24 rfl nn24 (fun w Q h => s24 _ w Q h) h c) ?_
  intro v w h
  refine L_g (t := 10) h rfl rfl (fun c h => P_nt h c) ?_
  intro v w h
  refine L_u (P_pk h) ?_
  intro v w h
  refine L_mv ?_
  refine L_g (t := 15) h rfl rfl (fun c h => P_mv h c) ?_
  intro v w h
  refine L_g (t := 15) h rfl rfl (fun c h => N_cl Try.func24 rfl nn24 (fun w Q h => s24 _ w Q h) h c) ?_
  intro v w h
  refine L_g (t := 15) h rfl rfl (fun c h => P_nt h c) ?_
  intro v w h
  refine L_u (P_pk h) ?_
  intro v w h
  refine L_mv ?_
  refine L_g (t := 20) h rfl rfl (fun c h => P_mv h c) ?_
  intro v w h
  refine L_g (t := 20) h rfl rfl (fun c h => P_mv h c) ?_
  intro v w h
  refine L_g (t := 20) h rfl rfl (fun c h => P_le h c) ?_
  intro v w h
  refine L_u (P_pk h) ?_
  intro v w h
  refine L_nil ?_
  refine E_n ?_
  refine C_cnd h (fun h => ?_) (fun h => ?_)
  · refine wp_seq ?_
    refine L_region ?_
    refine L_as ?_
    refine L_nil ?_
    refine E_n ?_
    refine C_ret ?_
    show bodyPost Try.prog Try.f16 (Rt Q) .ret _ _
    exact post_tmps (ts := [6]) (.inr rfl) rfl h
  · refine C_skip ?_
    refine E_n ?_
    refine wp_seq ?_
    refine D_region (by decide +kernel) 8 rfl ?_
    replace h := dr_e h
    refine G_r _ 0 rfl (by decide +kernel) (R_ldn ag23 h) ?_
    intro v h
    refine G_p 1 rfl (by decide +kernel) (Y_mv h) ?_
    intro v h
    refine G_r _ 3 rfl (by decide +kernel) (R_ldn ag23 h) ?_
    intro v h
    refine G_p 4 rfl (by decide +kernel) (Y_mv h) ?_
    intro v h
    refine G_e 2 rfl (by decide +kernel) (N_cl Try.func25 rfl nn25 (fun w Q h => s25 _ _ w Q h) h ?_)
    intro v w h
    refine ⟨keepF_cons (kp_1 h) (keepF_dep [0] (by decide +kernel) rfl keepF_nil), ?_⟩
    replace h := (kp_2 h)
    refine G_e 5 rfl (by decide +kernel) (N_cl Try.func25 rfl nn25 (fun w Q h => s25 _ _ w Q h) h ?_)
    intro v w h
    refine ⟨keepF_dep [3] (by decide +kernel) rfl (keepF_dep [2, 0] (by decide +kernel) rfl keepF_nil), ?_⟩
    refine G_p 6 rfl (by decide +kernel) (Y_su h) ?_
    intro v h
    refine G_p 7 rfl (by decide +kernel) (Y_as h) ?_
    intro v h
    refine G_done (by decide +kernel) ?_
    refine E_n ?_
    refine C_ret ?_
    show bodyPost Try.prog Try.f16 (Rt Q) .ret _ _
    exact post_tmps (ts := [6]) (.inr rfl) rfl h

/- factotum/factotumlaw34.ClockTimes -/
def f3 (t0 t1 t2 : Value) : M :=
  bx 23 t0 fun t3 =>
  cl (f7) fun t11 =>
  nt t11 fun t12 =>
  cnd t12 (
    rt (.bool false)
    ) (
    ldn 2 t3 fun t14 =>
    cl (f9 t14) fun t15 =>
    cl (f8 t15 t1) fun t17 =>
    ex 0 t17 fun t18 =>
    ex 1 t17 fun t19 =>
    ldn 2 t3 fun t21 =>
    cl (f10 t21 t1) fun t23 =>
    ex 0 t23 fun t24 =>
    ex 1 t23 fun t25 =>
    dr <|
    ldn 2 t3 fun t26 =>
    ldn 2 t3 fun t29 =>
    cl (f9 t26) fun t27 =>
    kp (Kldn 2 t3 t29) <|
    cl (f11 t27) fun t28 =>
    kp (Kldn 2 t3 t29) <|
    cl (f12 t29) fun t30 =>
    eqb t28 t30 fun t31 =>
    idv t31 fun t32 =>
    gd t32 true (idv t18) fun t33 =>
    gd t32 true (idv t24) fun t34 =>
    gd t32 true (eqi .i64 t33 t34) fun t35 =>
    pk t32 t35 (.bool false) fun t36 =>
    idv t36 fun t37 =>
    gd t37 true (idv t19) fun t38 =>
    gd t37 true (idv t25) fun t39 =>
    gd t37 true (eqb t38 t39) fun t40 =>
    pk t37 t40 (.bool false) fun t41 =>
    idv t41 fun t42 =>
    gd t42 true (ldn 2 t3) fun t43 =>
    gd t42 true (idv t1) fun t45 =>
    gd t42 true (ldn 2 t3) fun t47 =>
    gd t42 true (idv t1) fun t48 =>
    gd t42 true (cl (f9 t43)) fun t44 =>
    kp (fun w => gdB t42 true = true → Kldn 2 t3 t47 w) <|
    gd t42 true (cl (f13 t44 t45)) fun t46 =>
    kp (fun w => gdB t42 true = true → Kldn 2 t3 t47 w) <|
    gd t42 true (cl (f14 t47 t48)) fun t49 =>
    gd t42 true (eqb t46 t49) fun t50 =>
    pk t42 t50 (.bool false) fun t51 =>
    idv t51 fun t52 =>
    gd t52 true (ldn 2 t3) fun t53 =>
    gd t52 true (idv t1) fun t55 =>
    gd t52 true (idv t2) fun t56 =>
    gd t52 true (ldn 2 t3) fun t58 =>
    gd t52 true (idv t1) fun t59 =>
    gd t52 true (idv t2) fun t60 =>
    gd t52 true (cl (f9 t53)) fun t54 =>
    kp (fun w => gdB t52 true = true → Kldn 2 t3 t58 w) <|
    gd t52 true (cl (f15 t54 t55 t56)) fun t57 =>
    kp (fun w => gdB t52 true = true → Kldn 2 t3 t58 w) <|
    gd t52 true (cl (f16 t58 t59 t60)) fun t61 =>
    gd t52 true (eqi .i64 t57 t61) fun t62 =>
    pk t52 t62 (.bool false) fun t63 =>
    idv t63 fun t6 =>
    rt t6
    )
theorem s3 (t0 t1 t2 : Value) (w : World) (Q : Value → World → Prop) (h : f3 t0 t1 t2 w Q) : Calls Try.prog 3 #[t0, t1, t2] w (Rt Q) := by
  refine calls_of (l := [t0, t1, t2]) Try.func3 rfl Try.ntmps3 (Nat.le_of_ble_eq_true rfl) ?_
  unfold f3 at h
  refine wp_seq ?_
  refine L_region ?_
  refine L_u (P_bx h) ?_
  intro v w h
  refine L_as ?_
  refine L_nil ?_
  refine E_n ?_
  refine wp_seq ?_
  refine wp_seq ?_
  refine L_region ?_
  refine L_u (N_cl Try.func7 rfl nn7 (fun w Q h => s7 w Q h) h) ?_
  intro v w h
  refine L_u (P_nt h) ?_
  intro v w h
  refine L_nil ?_
  refine E_n ?_
  refine C_cnd h (fun h => ?_) (fun h => ?_)
  · refine wp_seq ?_
    refine L_region ?_
    refine L_as ?_
    refine L_nil ?_
    refine E_n ?_
    refine C_ret ?_
    show bodyPost Try.prog Try.f3 (Rt Q) .ret _ _
    exact post_tmps (ts := [6]) (.inr rfl) rfl h
  · refine C_skip ?_
    refine E_n ?_
    refine wp_seq ?_
    refine L_region ?_
    refine L_u (P_ldn ag23 h) ?_
    intro v w h
    refine L_u (N_cl Try.func9 rfl nn9 (fun w Q h => s9 _ w Q h) h) ?_
    intro v w h
    refine L_mv ?_
    refine L_u (N_cl Try.func8 rfl nn8 (fun w Q h => s8 _ _ w Q h) h) ?_
    intro v w h
    refine L_mv ?_
    refine L_u (P_ex h) ?_
    intro v w h
    refine L_u (P_ex h) ?_
    intro v w h
    refine L_as ?_
    refine L_as ?_
    refine L_nil ?_
    refine E_n ?_
    refine wp_seq ?_
    refine L_region ?_
    refine L_u (P_ldn ag23 h) ?_
    intro v w h
    refine L_mv ?_
    refine L_u (N_cl Try.func10 rfl nn10 (fun w Q h => s10 _ _ w Q h) h) ?_
    intro v w h
    refine L_mv ?_
    refine L_u (P_ex h) ?_
    intro v w h
    refine L_u (P_ex h) ?_
    intro v w h
    refine L_as ?_
    refine L_as ?_
    refine L_nil ?_
    refine E_n ?_
    refine wp_seq ?_
    refine D_region (by decide +kernel) 39 rfl ?_
    replace h := dr_e h
    refine G_r _ 0 rfl (by decide +kernel) (R_ldn ag23 h) ?_
    intro v h
    refine G_r _ 3 rfl (by decide +kernel) (R_ldn ag23 h) ?_
    intro v h
    refine G_e 1 rfl (by decide +kernel) (N_cl Try.func9 rfl nn9 (fun w Q h => s9 _ w Q h) h ?_)
    intro v w h
    refine ⟨keepF_cons (kp_1 h) (keepF_dep [0] (by decide +kernel) rfl keepF_nil), ?_⟩
    replace h := (kp_2 h)
    refine G_e 2 rfl (by decide +kernel) (N_cl Try.func11 rfl nn11 (fun w Q h => s11 _ w Q h) h ?_)
    intro v w h
    refine ⟨keepF_cons (kp_1 h) (keepF_dep [1, 0] (by decide +kernel) rfl keepF_nil), ?_⟩
    replace h := (kp_2 h)
    refine G_e 4 rfl (by decide +kernel) (N_cl Try.func12 rfl nn12 (fun w Q h => s12 _ w Q h) h ?_)
    intro v w h
    refine ⟨keepF_dep [3] (by decide +kernel) rfl (keepF_dep [2, 1, 0] (by decide +kernel) rfl keepF_nil), ?_⟩
    refine G_p 5 rfl (by decide +kernel) (Y_eqb bo4 h) ?_
    intro v h
    refine G_p 6 rfl (by decide +kernel) (Y_mv h) ?_
    intro v h
    refine G_pg (t := 32) 7 rfl (by decide +kernel) h rfl rfl (fun h => Y_mv h) ?_
    intro v h
    refine G_pg (t := 32) 8 rfl (by decide +kernel) h rfl rfl (fun h => Y_mv h) ?_
    intro v h
    refine G_pg (t := 32) 9 rfl (by decide +kernel) h rfl rfl (fun h => Y_eqi h) ?_
    intro v h
    refine G_p 10 rfl (by decide +kernel) (Y_pk h) ?_
    intro v h
    refine G_p 11 rfl (by decide +kernel) (Y_mv h) ?_
    intro v h
    refine G_pg (t := 37) 12 rfl (by decide +kernel) h rfl rfl (fun h => Y_mv h) ?_
    intro v h
    refine G_pg (t := 37) 13 rfl (by decide +kernel) h rfl rfl (fun h => Y_mv h) ?_
    intro v h
    refine G_pg (t := 37) 14 rfl (by decide +kernel) h rfl rfl (fun h => Y_eqb bo4 h) ?_
    intro v h
    refine G_p 15 rfl (by decide +kernel) (Y_pk h) ?_
    intro v h
    refine G_p 16 rfl (by decide +kernel) (Y_mv h) ?_
    intro v h
    refine G_rg (t := 42) _ 17 rfl (by decide +kernel) h rfl rfl (fun h => R_ldn ag23 h) ?_
    intro v h
    refine G_pg (t := 42) 19 rfl (by decide +kernel) h rfl rfl (fun h => Y_mv h) ?_
    intro v h
    refine G_rg (t := 42) _ 21 rfl (by decide +kernel) h rfl rfl (fun h => R_ldn ag23 h) ?_
    intro v h
    refine G_pg (t := 42) 22 rfl (by decide +kernel) h rfl rfl (fun h => Y_mv h) ?_
    intro v h
    refine G_eg (t := 42) 18 rfl (by decide +kernel) h rfl rfl (fun c h => N_cl Try.func9 rfl nn9 (fun w Q h => s9 _ w Q h) h c) ?_
    intro v w h
    refine ⟨keepF_cons (kp_1 h) (keepF_dep [17] (by decide +kernel) rfl (keepF_dep [16, 11, 6, 4, 3] (by decide +kernel) rfl (keepF_dep [16, 11, 6, 5, 2, 1, 0] (by decide +kernel) rfl keepF_nil))), ?_⟩
    replace h := (kp_2 h)
    refine G_eg (t := 42) 20 rfl (by decide +kernel) h rfl rfl (fun c h => N_cl Try.func13 rfl nn13 (fun w Q h => s13 _ _ w Q h) h c) ?_
    intro v w h
    refine ⟨keepF_cons (kp_1 h) (keepF_dep [18, 17] (by decide +kernel) rfl (keepF_dep [16, 11, 6, 4, 3] (by decide +kernel) rfl (keepF_dep [16, 11, 6, 5, 2, 1, 0] (by decide +kernel) rfl keepF_nil))), ?_⟩
    replace h := (kp_2 h)
    refine G_eg (t := 42) 23 rfl (by decide +kernel) h rfl rfl (fun c h => N_cl Try.func14 rfl nn14 (fun w Q h => s14 _ _ w Q h) h c) ?_
    intro v w h
    refine ⟨keepF_dep [21] (by decide +kernel) rfl (keepF_dep [20, 18, 17] (by decide +kernel) rfl (keepF_dep [16, 11, 6, 4, 3] (by decide +kernel) rfl (keepF_dep [16, 11, 6, 5, 2, 1, 0] (by decide +kernel) rfl keepF_nil))), ?_⟩
    refine G_pg (t := 42) 24 rfl (by decide +kernel) h rfl rfl (fun h => Y_eqb bo4 h) ?_
    intro v h
    refine G_p 25 rfl (by decide +kernel) (Y_pk h) ?_
    intro v h
    refine G_p 26 rfl (by decide +kernel) (Y_mv h) ?_
    intro v h
    refine G_rg (t := 52) _ 27 rfl (by decide +kernel) h rfl rfl (fun h => R_ldn ag23 h) ?_
    intro v h
    refine G_pg (t := 52) 29 rfl (by decide +kernel) h rfl rfl (fun h => Y_mv h) ?_
    intro v h
    refine G_pg (t := 52) 30 rfl (by decide +kernel) h rfl rfl (fun h => Y_mv h) ?_
    intro v h
    refine G_rg (t := 52) _ 32 rfl (by decide +kernel) h rfl rfl (fun h => R_ldn ag23 h) ?_
    intro v h
    refine G_pg (t := 52) 33 rfl (by decide +kernel) h rfl rfl (fun h => Y_mv h) ?_
    intro v h
    refine G_pg (t := 52) 34 rfl (by decide +kernel) h rfl rfl (fun h => Y_mv h) ?_
    intro v h
    refine G_eg (t := 52) 28 rfl (by decide +kernel) h rfl rfl (fun c h => N_cl Try.func9 rfl nn9 (fun w Q h => s9 _ w Q h) h c) ?_
    intro v w h
    refine ⟨keepF_cons (kp_1 h) (keepF_dep [27] (by decide +kernel) rfl (keepF_dep [26, 23, 21] (by decide +kernel) rfl (keepF_dep [26, 23, 20, 18, 17] (by decide +kernel) rfl (keepF_dep [26, 25, 16, 11, 6, 4, 3] (by decide +kernel) rfl (keepF_dep [26, 25, 16, 11, 6, 5, 2, 1, 0] (by decide +kernel) rfl keepF_nil))))), ?_⟩
    replace h := (kp_2 h)
    refine G_eg (t := 52) 31 rfl (by decide +kernel) h rfl rfl (fun c h => N_cl Try.func15 rfl nn15 (fun w Q h => s15 _ _ _ w Q h) h c) ?_
    intro v w h
    refine ⟨keepF_cons (kp_1 h) (keepF_dep [28, 27] (by decide +kernel) rfl (keepF_dep [26, 23, 21] (by decide +kernel) rfl (keepF_dep [26, 23, 20, 18, 17] (by decide +kernel) rfl (keepF_dep [26, 25, 16, 11, 6, 4, 3] (by decide +kernel) rfl (keepF_dep [26, 25, 16, 11, 6, 5, 2, 1, 0] (by decide +kernel) rfl keepF_nil))))), ?_⟩
    replace h := (kp_2 h)
    refine G_eg (t := 52) 35 rfl (by decide +kernel) h rfl rfl (fun c h => N_cl Try.func16 rfl nn16 (fun w Q h => s16 _ _ _ w Q h) h c) ?_
    intro v w h
    refine ⟨keepF_dep [32] (by decide +kernel) rfl (keepF_dep [31, 28, 27] (by decide +kernel) rfl (keepF_dep [26, 23, 21] (by decide +kernel) rfl (keepF_dep [26, 23, 20, 18, 17] (by decide +kernel) rfl (keepF_dep [26, 25, 16, 11, 6, 4, 3] (by decide +kernel) rfl (keepF_dep [26, 25, 16, 11, 6, 5, 2, 1, 0] (by decide +kernel) rfl keepF_nil))))), ?_⟩
    refine G_pg (t := 52) 36 rfl (by decide +kernel) h rfl rfl (fun h => Y_eqi h) ?_
    intro v h
    refine G_p 37 rfl (by decide +kernel) (Y_pk h) ?_
    intro v h
    refine G_p 38 rfl (by decide +kernel) (Y_as h) ?_
    intro v h
    refine G_done (by decide +kernel) ?_
    refine E_n ?_
    refine C_ret ?_
    show bodyPost Try.prog Try.f3 (Rt Q) .ret _ _
    exact post_tmps (ts := [6]) (.inr rfl) rfl h

/- factotum/factotumlaw34.common -/
def f18_b2 (j1 : Value → M) (self2 : Value → Value → M) (t0_1 t1_1 : Value) : M :=
  nei .i64 t1_1 (.int .i64 0) fun t6 =>
  cnd t6 (
    dr <|
    idv t1_1 fun t7 =>
    idv t0_1 fun t8 =>
    idv t1_1 fun t9 =>
    re .i64 t8 t9 fun t10 =>
    idv t7 fun t0_2 =>
    idv t10 fun t1_2 =>
    self2 t0_2 t1_2
    ) (
    j1 t0_1
    )
def f18_j1 (t0_3 : Value) : M :=
  rt t0_3
def f18 (t0 t1 : Value) : M :=
  jn (fun (j1 : Value → M) =>
    lo (fun _ _ => bot) (f18_b2 j1) (fun l => l t0 t1)
    ) (f18_j1)
theorem s18 (t0 t1 : Value) (w : World) (Q : Value → World → Prop) (h : f18 t0 t1 w Q) : Calls Try.prog 18 #[t0, t1] w (Rt Q) := by
  refine calls_of (l := [t0, t1]) Try.func18 rfl Try.ntmps18 (Nat.le_of_ble_eq_true rfl) ?_
  unfold f18 at h
  refine wp_seq ?_
  refine L_region ?_
  refine L_as ?_
  refine L_nil ?_
  refine E_n ?_
  refine wp_seq ?_
  refine C_join (fun (k : Value → M) (ρ : Nat → Value) => k (ρ 0)) h (fun j1 J1 h => ?_) (fun ρ w h => ?_)
  · refine C_blk ?_
    refine C_lo (fun (l : Value → Value → M) (ρ : Nat → Value) => l (ρ 0) (ρ 1)) h (fun ρ w h => h) (fun nx self2 L2 ρ w h => ?_)
    unfold f18_b2 at h
    refine wp_seq ?_
    refine wp_seq ?_
    refine L_region ?_
    refine L_mv ?_
    refine L_u (P_nei h) ?_
    intro v w h
    refine L_nil ?_
    refine E_n ?_
    refine C_cnd h (fun h => ?_) (fun h => ?_)
    · refine C_skip ?_
      refine E_n ?_
      refine C_blk ?_
      refine D_region (by decide +kernel) 6 rfl ?_
      replace h := dr_e h
      refine G_p 0 rfl (by decide +kernel) (Y_mv h) ?_
      intro v h
      refine G_p 1 rfl (by decide +kernel) (Y_mv h) ?_
      intro v h
      refine G_p 2 rfl (by decide +kernel) (Y_mv h) ?_
      intro v h
      refine G_p 3 rfl (by decide +kernel) (Y_re h) ?_
      intro v h
      refine G_p 4 rfl (by decide +kernel) (Y_as h) ?_
      intro v h
      refine G_p 5 rfl (by decide +kernel) (Y_as h) ?_
      intro v h
      refine G_done (by decide +kernel) ?_
      refine B_n ?_
      refine E_n ?_
      exact L2 _ _ h
    · refine C_exit ?_
      refine E_x ?_
      refine E_x ?_
      refine B_x ?_
      exact J1 _ _ h
  · unfold f18_j1 at h
    refine E_n ?_
    refine wp_seq ?_
    refine L_region ?_
    refine L_mv ?_
    refine L_as ?_
    refine L_nil ?_
    refine E_n ?_
    refine C_ret ?_
    show bodyPost Try.prog Try.f18 (Rt Q) .ret _ _
    exact post_tmps (ts := [4]) (.inr rfl) rfl h

/- factotum/factotumlaw34.ClockMeet -/
def f4_j1 (t2_1 t3_1 t4_1 t7_4 t8_4 : Value) : M :=
  ldn 2 t3_1 fun t21 =>
  cl (f9 t21) fun t22 =>
  cl (f13 t22 t2_1) fun t24 =>
  gd t24 true (ldn 2 t4_1) fun t26 =>
  gd t24 true (cl (f9 t26)) fun t27 =>
  gd t24 true (idv t2_1) fun t28 =>
  gd t24 true (cl (f13 t27 t28)) fun t29 =>
  pk t24 t29 (.bool false) fun t30 =>
  nt t8_4 fun t32 =>
  cnd t32 (
    dr <|
    ldn 2 t3_1 fun t33 =>
    cl (f9 t33) fun t34 =>
    cl (f11 t34) fun t35 =>
    idv t35 fun t36 =>
    gd t36 true (ldn 2 t4_1) fun t37 =>
    gd t36 true (cl (f9 t37)) fun t38 =>
    gd t36 true (cl (f11 t38)) fun t39 =>
    pk t36 t39 (.bool false) fun t40 =>
    idv t40 fun t41 =>
    gd t41 true (fa 0 t3_1) fun t42 =>
    gd t41 true (ld t42) fun t43 =>
    gd t41 true (fa 0 t3_1) fun t44 =>
    gd t41 true (ld t44) fun t45 =>
    gd t41 true (fa 0 t4_1) fun t46 =>
    gd t41 true (ld t46) fun t47 =>
    gd t41 true (fa 0 t4_1) fun t50 =>
    gd t41 true (ld t50) fun t51 =>
    gd t41 true (qu .i64 (.int .i64 1099511627776) t51) fun t52 =>
    gd t41 true (cl (f18 t45 t47)) fun t48 =>
    kp (fun w => gdB t41 true = true → Kld t50 t51 w) <|
    kp (fun w => gdB t41 true = true → Kld t42 t43 w) <|
    gd t41 true (qu .i64 t43 t48) fun t49 =>
    gd t41 true (gt .i64 t49 t52) fun t53 =>
    pk t41 t53 (.bool false) fun t54 =>
    idv t54 fun t10 =>
    ldn 2 t7_4 fun t55 =>
    smr Try.prog (Instr.build 27 #[]) fun t56 =>
    smr Try.prog (do eqGuard .eql 27 (.tmp 55) (.tmp 56) t55 t56; binOp .eql 27 t55 t56) fun t57 =>
    gd t57 true (idv t30) fun t59 =>
    gd t57 true (nt t59) fun t60 =>
    gd t57 true (idv t60) fun t61 =>
    gd t61 false (idv t10) fun t62 =>
    gd t57 true (pk t61 (.bool true) t62) fun t63 =>
    pk t57 t63 (.bool false) fun t64 =>
    rt t64
    ) (
    ldn 2 t7_4 fun t65 =>
    cl (f11 t65) fun t66 =>
    gd t66 true (ldn 2 t7_4) fun t68 =>
    gd t66 true (idv t2_1) fun t69 =>
    gd t66 true (cl (f13 t68 t69)) fun t70 =>
    gd t66 true (idv t30) fun t71 =>
    gd t66 true (eqb t70 t71) fun t72 =>
    pk t66 t72 (.bool false) fun t73 =>
    gd t73 true (fa 0 t7_4) fun t75 =>
    gd t73 true (ld t75) fun t76 =>
    gd t73 true (fa 0 t3_1) fun t77 =>
    gd t73 true (ld t77) fun t78 =>
    gd t73 true (re .i64 t76 t78) fun t79 =>
    gd t73 true (eqi .i64 t79 (.int .i64 0)) fun t80 =>
    pk t73 t80 (.bool false) fun t81 =>
    gd t81 true (fa 0 t7_4) fun t83 =>
    gd t81 true (ld t83) fun t84 =>
    gd t81 true (fa 0 t4_1) fun t85 =>
    gd t81 true (ld t85) fun t86 =>
    gd t81 true (re .i64 t84 t86) fun t87 =>
    gd t81 true (eqi .i64 t87 (.int .i64 0)) fun t88 =>
    pk t81 t88 (.bool false) fun t89 =>
    rt t89
    )
def f4 (t0 t1 t2 : Value) : M :=
  bx 23 t0 fun t3 =>
  bx 23 t1 fun t4 =>
  cl (f7) fun t11 =>
  nt t11 fun t12 =>
  cnd t12 (
    rt (.bool false)
    ) (
    jn (fun (j1 : Value → Value → Value → Value → Value → M) =>
      dr <|
      ldn 2 t3 fun t14 =>
      ldn 2 t4 fun t16 =>
      amb (
        cl (f9 t14) fun t15 =>
        kp (Kldn 2 t4 t16) <|
        amb (
          cl (f9 t16) fun t17 =>
          amb (
            cl (f17 t15 t17) fun t18 =>
            idv t18 fun t13 =>
            ex 0 t13 fun t19 =>
            ex 1 t13 fun t20 =>
            al 27 #[(.int .i64 0), (.int .i64 0)] fun t7_3 =>
            kp (Kldn 2 t4 t16) <|
            kp (Kldn 2 t3 t14) <|
            stn 2 t7_3 t19 <|
            idv t20 fun t8 =>
            j1 t2 t3 t4 t7_3 t8
            ) (
            al 27 #[(.int .i64 0), (.int .i64 0)] fun t7_2 =>
            kp (Kldn 2 t4 t16) <|
            kp (Kldn 2 t3 t14) <|
            cl (f17 t15 t17) fun t18_1 =>
            idv t18_1 fun t13_1 =>
            ex 0 t13_1 fun t19_1 =>
            ex 1 t13_1 fun t20_1 =>
            stn 2 t7_2 t19_1 <|
            idv t20_1 fun t8_1 =>
            j1 t2 t3 t4 t7_2 t8_1
            )
          ) (
          al 27 #[(.int .i64 0), (.int .i64 0)] fun t7_1 =>
          kp (Kldn 2 t4 t16) <|
          kp (Kldn 2 t3 t14) <|
          cl (f9 t16) fun t17_1 =>
          cl (f17 t15 t17_1) fun t18_2 =>
          idv t18_2 fun t13_2 =>
          ex 0 t13_2 fun t19_2 =>
          ex 1 t13_2 fun t20_2 =>
          stn 2 t7_1 t19_2 <|
          idv t20_2 fun t8_2 =>
          j1 t2 t3 t4 t7_1 t8_2
          )
        ) (
        al 27 #[(.int .i64 0), (.int .i64 0)] fun t7 =>
        kp (Kldn 2 t4 t16) <|
        kp (Kldn 2 t3 t14) <|
        cl (f9 t14) fun t15_1 =>
        kp (Kldn 2 t4 t16) <|
        cl (f9 t16) fun t17_2 =>
        cl (f17 t15_1 t17_2) fun t18_3 =>
        idv t18_3 fun t13_3 =>
        ex 0 t13_3 fun t19_3 =>
        ex 1 t13_3 fun t20_3 =>
        stn 2 t7 t19_3 <|
        idv t20_3 fun t8_3 =>
        j1 t2 t3 t4 t7 t8_3
        )
      ) (f4_j1)
    )
theorem s4 (t0 t1 t2 : Value) (w : World) (Q : Value → World → Prop) (h : f4 t0 t1 t2 w Q) : Calls Try.prog 4 #[t0, t1, t2] w (Rt Q) := by
  refine calls_of (l := [t0, t1, t2]) Try.func4 rfl Try.ntmps4 (Nat.le_of_ble_eq_true rfl) ?_
  unfold f4 at h
  refine wp_seq ?_
  refine L_region ?_
  refine L_u (P_bx h) ?_
  intro v w h
  refine L_u (P_bx h) ?_
  intro v w h
  refine L_as ?_
  refine L_nil ?_
  refine E_n ?_
  refine wp_seq ?_
  refine wp_seq ?_
  refine L_region ?_
  refine L_u (N_cl Try.func7 rfl nn7 (fun w Q h => s7 w Q h) h) ?_
  intro v w h
  refine L_u (P_nt h) ?_
  intro v w h
  refine L_nil ?_
  refine E_n ?_
  refine C_cnd h (fun h => ?_) (fun h => ?_)
  · refine wp_seq ?_
    refine L_region ?_
    refine L_as ?_
    refine L_nil ?_
    refine E_n ?_
    refine C_ret ?_
    show bodyPost Try.prog Try.f4 (Rt Q) .ret _ _
    exact post_tmps (ts := [6]) (.inr rfl) rfl h
  · refine C_skip ?_
    refine E_n ?_
    refine wp_seq ?_
    refine C_join (fun (k : Value → Value → Value → Value → Value → M) (ρ : Nat → Value) => k (ρ 2) (ρ 3) (ρ 4) (ρ 7) (ρ 8)) h (fun j1 J1 h => ?_) (fun ρ w h => ?_)
    · refine D_region (by decide +kernel) 11 rfl ?_
      replace h := dr_e h
      refine G_r _ 0 rfl (by decide +kernel) (R_ldn ag23 h) ?_
      intro v h
      refine G_r _ 2 rfl (by decide +kernel) (R_ldn ag23 h) ?_
      intro v h
      refine G_two (i := 1) (j := 8) (by decide +kernel) (G_op rfl (N_cl Try.func9 rfl nn9 (fun w Q h => s9 _ w Q h) (amb_1 h) ?_)) (G_op rfl (P_al ze27 rfl (amb_2 h) ?_))
      · intro v w h
        refine ⟨keepF_cons (kp_1 h) (keepF_dep [0] (by decide +kernel) rfl keepF_nil), ?_⟩
        replace h := (kp_2 h)
        refine G_two (i := 3) (j := 8) (by decide +kernel) (G_op rfl (N_cl Try.func9 rfl nn9 (fun w Q h => s9 _ w Q h) (amb_1 h) ?_)) (G_op rfl (P_al ze27 rfl (amb_2 h) ?_))
        · intro v w h
          refine ⟨keepF_dep [2] (by decide +kernel) rfl (keepF_dep [1, 0] (by decide +kernel) rfl keepF_nil), ?_⟩
          refine G_two (i := 4) (j := 8) (by decide +kernel) (G_op rfl (N_cl Try.func17 rfl nn17 (fun w Q h => s17 _ _ w Q h) (amb_1 h) ?_)) (G_op rfl (P_al ze27 rfl (amb_2 h) ?_))
          · intro v w h
            refine ⟨keepF_dep [3, 2] (by decide +kernel) rfl (keepF_dep [1, 0] (by decide +kernel) rfl keepF_nil), ?_⟩
            refine G_p 5 rfl (by decide +kernel) (Y_mv h) ?_
            intro v h
            refine G_p 6 rfl (by decide +kernel) (Y_ex h) ?_
            intro v h
            refine G_p 7 rfl (by decide +kernel) (Y_ex h) ?_
            intro v h
            refine G_e 8 rfl (by decide +kernel) (P_al ze27 rfl h ?_)
            intro v w h
            refine ⟨keepF_cons (kp_1 h) (keepF_cons (kp_1 (kp_2 h)) keepF_nil), ?_⟩
            replace h := (kp_2 (kp_2 h))
            refine G_e 9 rfl (by decide +kernel) (P_stn ag27 h ?_)
            intro w h
            refine ⟨keepF_dep [2] (by decide +kernel) rfl (keepF_dep [0] (by decide +kernel) rfl keepF_nil), ?_⟩
            refine G_p 10 rfl (by decide +kernel) (Y_as h) ?_
            intro v h
            refine G_done (by decide +kernel) ?_
            exact J1 _ _ h
          · intro v w h
            refine ⟨keepF_cons (kp_1 h) (keepF_cons (kp_1 (kp_2 h)) keepF_nil), ?_⟩
            replace h := (kp_2 (kp_2 h))
            refine G_e 4 rfl (by decide +kernel) (N_cl Try.func17 rfl nn17 (fun w Q h => s17 _ _ w Q h) h ?_)
            intro v w h
            refine ⟨keepF_dep [3, 2] (by decide +kernel) rfl (keepF_dep [1, 0] (by decide +kernel) rfl keepF_nil), ?_⟩
            refine G_p 5 rfl (by decide +kernel) (Y_mv h) ?_
            intro v h
            refine G_p 6 rfl (by decide +kernel) (Y_ex h) ?_
            intro v h
            refine G_p 7 rfl (by decide +kernel) (Y_ex h) ?_
            intro v h
            refine G_e 9 rfl (by decide +kernel) (P_stn ag27 h ?_)
            intro w h
            refine ⟨keepF_dep [2] (by decide +kernel) rfl (keepF_dep [0] (by decide +kernel) rfl keepF_nil), ?_⟩
            refine G_p 10 rfl (by decide +kernel) (Y_as h) ?_
            intro v h
            refine G_done (by decide +kernel) ?_
            exact J1 _ _ h
        · intro v w h
          refine ⟨keepF_cons (kp_1 h) (keepF_cons (kp_1 (kp_2 h)) keepF_nil), ?_⟩
          replace h := (kp_2 (kp_2 h))
          refine G_e 3 rfl (by decide +kernel) (N_cl Try.func9 rfl nn9 (fun w Q h => s9 _ w Q h) h ?_)
          intro v w h
          refine ⟨keepF_dep [2] (by decide +kernel) rfl (keepF_dep [1, 0] (by decide +kernel) rfl keepF_nil), ?_⟩
          refine G_e 4 rfl (by decide +kernel) (N_cl Try.func17 rfl nn17 (fun w Q h => s17 _ _ w Q h) h ?_)
          intro v w h
          refine ⟨keepF_dep [3, 2] (by decide +kernel) rfl (keepF_dep [1, 0] (by decide +kernel) rfl keepF_nil), ?_⟩
          refine G_p 5 rfl (by decide +kernel) (Y_mv h) ?_
          intro v h
          refine G_p 6 rfl (by decide +kernel) (Y_ex h) ?_
          intro v h
          refine G_p 7 rfl (by decide +kernel) (Y_ex h) ?_
          intro v h
          refine G_e 9 rfl (by decide +kernel) (P_stn ag27 h ?_)
          intro w h
          refine ⟨keepF_dep [2] (by decide +kernel) rfl (keepF_dep [0] (by decide +kernel) rfl keepF_nil), ?_⟩
          refine G_p 10 rfl (by decide +kernel) (Y_as h) ?_
          intro v h
          refine G_done (by decide +kernel) ?_
          exact J1 _ _ h
      · intro v w h
        refine ⟨keepF_cons (kp_1 h) (keepF_cons (kp_1 (kp_2 h)) keepF_nil), ?_⟩
        replace h := (kp_2 (kp_2 h))
        refine G_e 1 rfl (by decide +kernel) (N_cl Try.func9 rfl nn9 (fun w Q h => s9 _ w Q h) h ?_)
        intro v w h
        refine ⟨keepF_cons (kp_1 h) (keepF_dep [0] (by decide +kernel) rfl keepF_nil), ?_⟩
        replace h := (kp_2 h)
        refine G_e 3 rfl (by decide +kernel) (N_cl Try.func9 rfl nn9 (fun w Q h => s9 _ w Q h) h ?_)
        intro v w h
        refine ⟨keepF_dep [2] (by decide +kernel) rfl (keepF_dep [1, 0] (by decide +kernel) rfl keepF_nil), ?_⟩
        refine G_e 4 rfl (by decide +kernel) (N_cl Try.func17 rfl nn17 (fun w Q h => s17 _ _ w Q h) h ?_)
        intro v w h
        refine ⟨keepF_dep [3, 2] (by decide +kernel) rfl (keepF_dep [1, 0] (by decide +kernel) rfl keepF_nil), ?_⟩
        refine G_p 5 rfl (by decide +kernel) (Y_mv h) ?_
        intro v h
        refine G_p 6 rfl (by decide +kernel) (Y_ex h) ?_
        intro v h
        refine G_p 7 rfl (by decide +kernel) (Y_ex h) ?_
        intro v h
        refine G_e 9 rfl (by decide +kernel) (P_stn ag27 h ?_)
        intro w h
        refine ⟨keepF_dep [2] (by decide +kernel) rfl (keepF_dep [0] (by decide +kernel) rfl keepF_nil), ?_⟩
        refine G_p 10 rfl (by decide +kernel) (Y_as h) ?_
        intro v h
        refine G_done (by decide +kernel) ?_
        exact J1 _ _ h
    · unfold f4_j1 at h
      refine E_n ?_
      refine wp_seq ?_
      refine L_region ?_
      refine L_u (P_ldn ag23 h) ?_
      intro v w h
      refine L_u (N_cl Try.func9 rfl nn9 (fun w Q h => s9 _ w Q h) h) ?_
      intro v w h
      refine L_mv ?_
      refine L_u (N_cl Try.func13 rfl nn13 (fun w Q h => s13 _ _ w Q h) h) ?_
      intro v w h
      refine L_mv ?_
      refine L_g (t := 25) h rfl rfl (fun c h => P_ldn ag23 h c) ?_
      intro v w h
      refine L_g (t := 25) h rfl rfl (fun c h => N_cl Try.func9 rfl nn9 (fun w Q h => s9 _ w Q h) h c) ?_
      intro v w h
      refine L_g (t := 25) h rfl rfl (fun c h => P_mv h c) ?_
      intro v w h
      refine L_g (t := 25) h rfl rfl (fun c h => N_cl Try.func13 rfl nn13 (fun w Q h => s13 _ _ w Q h) h c) ?_
      intro v w h
      refine L_u (P_pk h) ?_
      intro v w h
      refine L_as ?_
      refine L_nil ?_
      refine E_n ?_
      refine wp_seq ?_
      refine wp_seq ?_
      refine L_region ?_
      refine L_mv ?_
      refine L_u (P_nt h) ?_
      intro v w h
      refine L_nil ?_
      refine E_n ?_
      refine C_cnd h (fun h => ?_) (fun h => ?_)
      · refine wp_seq ?_
        refine D_region (by decide +kernel) 23 rfl ?_
        replace h := dr_e h
        refine G_r _ 0 rfl (by decide +kernel) (R_ldn ag23 h) ?_
        intro v h
        refine G_e 1 rfl (by decide +kernel) (N_cl Try.func9 rfl nn9 (fun w Q h => s9 _ w Q h) h ?_)
        intro v w h
        refine ⟨keepF_dep [0] (by decide +kernel) rfl keepF_nil, ?_⟩
        refine G_e 2 rfl (by decide +kernel) (N_cl Try.func11 rfl nn11 (fun w Q h => s11 _ w Q h) h ?_)
        intro v w h
        refine ⟨keepF_dep [1, 0] (by decide +kernel) rfl keepF_nil, ?_⟩
        refine G_p 3 rfl (by decide +kernel) (Y_mv h) ?_
        intro v h
        refine G_rg (t := 36) _ 4 rfl (by decide +kernel) h rfl rfl (fun h => R_ldn ag23 h) ?_
        intro v h
        refine G_eg (t := 36) 5 rfl (by decide +kernel) h rfl rfl (fun c h => N_cl Try.func9 rfl nn9 (fun w Q h => s9 _ w Q h) h c) ?_
        intro v w h
        refine ⟨keepF_dep [4] (by decide +kernel) rfl (keepF_dep [3, 2, 1, 0] (by decide +kernel) rfl keepF_nil), ?_⟩
        refine G_eg (t := 36) 6 rfl (by decide +kernel) h rfl rfl (fun c h => N_cl Try.func11 rfl nn11 (fun w Q h => s11 _ w Q h) h c) ?_
        intro v w h
        refine ⟨keepF_dep [5, 4] (by decide +kernel) rfl (keepF_dep [3, 2, 1, 0] (by decide +kernel) rfl keepF_nil), ?_⟩
        refine G_p 7 rfl (by decide +kernel) (Y_pk h) ?_
        intro v h
        refine G_p 8 rfl (by decide +kernel) (Y_mv h) ?_
        intro v h
        refine G_pg (t := 41) 9 rfl (by decide +kernel) h rfl rfl (fun h => Y_fa fo23_0 h) ?_
        intro v h
        refine G_rg (t := 41) _ 10 rfl (by decide +kernel) h rfl rfl (fun h => R_ld sc2 h) ?_
        intro v h
        refine G_pg (t := 41) 11 rfl (by decide +kernel) h rfl rfl (fun h => Y_fa fo23_0 h) ?_
        intro v h
        refine G_rg (t := 41) _ 12 rfl (by decide +kernel) h rfl rfl (fun h => R_ld sc2 h) ?_
        intro v h
        refine G_pg (t := 41) 13 rfl (by decide +kernel) h rfl rfl (fun h => Y_fa fo23_0 h) ?_
        intro v h
        refine G_rg (t := 41) _ 14 rfl (by decide +kernel) h rfl rfl (fun h => R_ld sc2 h) ?_
        intro v h
        refine G_pg (t := 41) 17 rfl (by decide +kernel) h rfl rfl (fun h => Y_fa fo23_0 h) ?_
        intro v h
        refine G_rg (t := 41) _ 18 rfl (by decide +kernel) h rfl rfl (fun h => R_ld sc2 h) ?_
        intro v h
        refine G_pg (t := 41) 19 rfl (by decide +kernel) h rfl rfl (fun h => Y_qu h) ?_
        intro v h
        refine G_eg (t := 41) 15 rfl (by decide +kernel) h rfl rfl (fun c h => N_cl Try.func18 rfl nn18 (fun w Q h => s18 _ _ w Q h) h c) ?_
        intro v w h
        refine ⟨keepF_cons (kp_1 h) (keepF_dep [14] (by decide +kernel) rfl (keepF_dep [12] (by decide +kernel) rfl (keepF_cons (kp_1 (kp_2 h)) (keepF_dep [8, 6, 5, 4] (by decide +kernel) rfl (keepF_dep [8, 7, 3, 2, 1, 0] (by decide +kernel) rfl keepF_nil))))), ?_⟩
        replace h := (kp_2 (kp_2 h))
        refine G_pg (t := 41) 16 rfl (by decide +kernel) h rfl rfl (fun h => Y_qu h) ?_
        intro v h
        refine G_pg (t := 41) 20 rfl (by decide +kernel) h rfl rfl (fun h => Y_gt h) ?_
        intro v h
        refine G_p 21 rfl (by decide +kernel) (Y_pk h) ?_
        intro v h
        refine G_p 22 rfl (by decide +kernel) (Y_as h) ?_
        intro v h
        refine G_done (by decide +kernel) ?_
        refine E_n ?_
        refine wp_seq ?_
        refine L_region ?_
        refine L_u (P_ldn ag27 h) ?_
        intro v w h
        refine L_u (N_bld h) ?_
        intro v w h
        refine L_u (P_smr rfl h) ?_
        intro v w h
        refine L_mv ?_
        refine L_g (t := 58) h rfl rfl (fun c h => P_mv h c) ?_
        intro v w h
        refine L_g (t := 58) h rfl rfl (fun c h => P_nt h c) ?_
        intro v w h
        refine L_g (t := 58) h rfl rfl (fun c h => P_mv h c) ?_
        intro v w h
        refine L_g (t := 61) h rfl rfl (fun c h => P_mv h c) ?_
        intro v w h
        refine L_g (t := 58) h rfl rfl (fun c h => P_pk h c) ?_
        intro v w h
        refine L_u (P_pk h) ?_
        intro v w h
        refine L_as ?_
        refine L_nil ?_
        refine E_n ?_
        refine C_ret ?_
        show bodyPost Try.prog Try.f4 (Rt Q) .ret _ _
        exact post_tmps (ts := [6]) (.inr rfl) rfl h
      · refine C_skip ?_
        refine E_n ?_
        refine wp_seq ?_
        refine L_region ?_
        refine L_u (P_ldn ag27 h) ?_
        intro v w h
        refine L_u (N_cl Try.func11 rfl nn11 (fun w Q h => s11 _ w Q h) h) ?_
        intro v w h
        refine L_mv ?_
        refine L_g (t := 67) h rfl rfl (fun c h => P_ldn ag27 h c) ?_
        intro v w h
        refine L_g (t := 67) h rfl rfl (fun c h => P_mv h c) ?_
        intro v w h
        refine L_g (t := 67) h rfl rfl (fun c h => N_cl Try.func13 rfl nn13 (fun w Q h => s13 _ _ w Q h) h c) ?_
        intro v w h
        refine L_g (t := 67) h rfl rfl (fun c h => P_mv h c) ?_
        intro v w h
        refine L_g (t := 67) h rfl rfl (fun c h => P_eqb bo4 h c) ?_
        intro v w h
        refine L_u (P_pk h) ?_
        intro v w h
        refine L_mv ?_
        refine L_g (t := 74) h rfl rfl (fun c h => P_fa fo27_0 h c) ?_
        intro v w h
        refine L_g (t := 74) h rfl rfl (fun c h => P_ld sc2 h c) ?_
        intro v w h
        refine L_g (t := 74) h rfl rfl (fun c h => P_fa fo23_0 h c) ?_
        intro v w h
        refine L_g (t := 74) h rfl rfl (fun c h => P_ld sc2 h c) ?_
        intro v w h
        refine L_g (t := 74) h rfl rfl (fun c h => P_re h c) ?_
        intro v w h
        refine L_g (t := 74) h rfl rfl (fun c h => P_eqi h c) ?_
        intro v w h
        refine L_u (P_pk h) ?_
        intro v w h
        refine L_mv ?_
        refine L_g (t := 82) h rfl rfl (fun c h => P_fa fo27_0 h c) ?_
        intro v w h
        refine L_g (t := 82) h rfl rfl (fun c h => P_ld sc2 h c) ?_
        intro v w h
        refine L_g (t := 82) h rfl rfl (fun c h => P_fa fo23_0 h c) ?_
        intro v w h
        refine L_g (t := 82) h rfl rfl (fun c h => P_ld sc2 h c) ?_
        intro v w h
        refine L_g (t := 82) h rfl rfl (fun c h => P_re h c) ?_
        intro v w h
        refine L_g (t := 82) h rfl rfl (fun c h => P_eqi h c) ?_
        intro v w h
        refine L_u (P_pk h) ?_
        intro v w h
        refine L_as ?_
        refine L_nil ?_
        refine E_n ?_
        refine C_ret ?_
        show bodyPost Try.prog Try.f4 (Rt Q) .ret _ _
        exact post_tmps (ts := [6]) (.inr rfl) rfl h

/- factotum/factotumlaw34.ClockCounts -/
def f5 (t0 t1 : Value) : M :=
  bx 23 t0 fun t2 =>
  bx 41 t1 fun t3 =>
  cl (f7) fun t12 =>
  nt t12 fun t13 =>
  cnd t13 (
    rt (.bool false)
    ) (
    dr <|
    iaa 3 1 t3 (.int .i64 0) fun t14 =>
    ld t14 fun t15 =>
    iaa 3 1 t3 (.int .i64 1) fun t16 =>
    ld t16 fun t17 =>
    iaa 3 1 t3 (.int .i64 2) fun t18 =>
    ld t18 fun t19 =>
    idv t15 fun t5 =>
    idv t17 fun t6 =>
    idv t19 fun t7 =>
    gt .i64 t5 t6 fun t22 =>
    gd t22 false (idv t6) fun t24 =>
    gd t22 false (idv t7) fun t25 =>
    gd t22 false (gt .i64 t24 t25) fun t26 =>
    pk t22 (.bool true) t26 fun t27 =>
    gd t27 false (idv t5) fun t29 =>
    gd t27 false (lt .i64 t29 (.int .i64 (-576460752303423488))) fun t30 =>
    pk t27 (.bool true) t30 fun t31 =>
    gd t31 false (idv t7) fun t33 =>
    gd t31 false (gt .i64 t33 (.int .i64 576460752303423488)) fun t34 =>
    pk t31 (.bool true) t34 fun t35 =>
    cnd t35 (
      rt (.bool true)
      ) (
      ldn 2 t2 fun t36 =>
      cl (f9 t36) fun t37 =>
      al 27 #[(.int .i64 0), (.int .i64 0)] fun t8 =>
      stn 2 t8 t37 <|
      ldn 2 t8 fun t39 =>
      cl (f8 t39 t5) fun t41 =>
      ex 0 t41 fun t42 =>
      ex 1 t41 fun t43 =>
      ldn 2 t8 fun t45 =>
      cl (f11 t45) fun t46 =>
      neb t43 t46 fun t47 =>
      cnd t47 (
        rt (.bool false)
        ) (
        dr <|
        ldn 2 t8 fun t48 =>
        idv t5 fun t49 =>
        idv t6 fun t50 =>
        ldn 2 t8 fun t52 =>
        idv t6 fun t53 =>
        idv t7 fun t54 =>
        cl (f15 t48 t49 t50) fun t51 =>
        kp (Kldn 2 t8 t52) <|
        cl (f15 t52 t53 t54) fun t55 =>
        ad .i64 t51 t55 fun t56 =>
        idv t56 fun t11 =>
        ldn 2 t8 fun t57 =>
        cl (f15 t57 t5 t7) fun t60 =>
        eqi .i64 t60 t11 fun t62 =>
        gd t62 true (idv t43) fun t64 =>
        gd t62 true (nt t64) fun t65 =>
        gd t62 true (idv t65) fun t66 =>
        gd t66 false (idv t42) fun t67 =>
        gd t66 false (idv t5) fun t68 =>
        gd t66 false (gt .i64 t67 t68) fun t69 =>
        gd t66 false (idv t69) fun t70 =>
        gd t70 true (ldn 2 t8) fun t71 =>
        gd t70 true (idv t42) fun t72 =>
        gd t70 true (cl (f13 t71 t72)) fun t73 =>
        gd t66 false (pk t70 t73 (.bool false)) fun t74 =>
        gd t66 false (idv t74) fun t75 =>
        gd t75 true (ldn 2 t8) fun t76 =>
        gd t75 true (idv t5) fun t77 =>
        gd t75 true (ad .i64 t77 (.int .i64 1)) fun t78 =>
        gd t75 true (idv t42) fun t79 =>
        gd t75 true (cl (f15 t76 t78 t79)) fun t80 =>
        gd t75 true (eqi .i64 t80 (.int .i64 0)) fun t81 =>
        gd t66 false (pk t75 t81 (.bool false)) fun t82 =>
        gd t66 false (idv t82) fun t83 =>
        gd t83 true (ldn 2 t8) fun t84 =>
        gd t83 true (idv t42) fun t85 =>
        gd t83 true (idv t42) fun t86 =>
        gd t83 true (ad .i64 t86 (.int .i64 1)) fun t87 =>
        gd t83 true (cl (f15 t84 t85 t87)) fun t88 =>
        gd t83 true (eqi .i64 t88 (.int .i64 1)) fun t89 =>
        gd t66 false (pk t83 t89 (.bool false)) fun t90 =>
        gd t62 true (pk t66 (.bool true) t90) fun t91 =>
        pk t62 t91 (.bool false) fun t92 =>
        rt t92
        )
      )
    )
theorem s5 (t0 t1 : Value) (w : World) (Q : Value → World → Prop) (h : f5 t0 t1 w Q) : Calls Try.prog 5 #[t0, t1] w (Rt Q) := by
  refine calls_of (l := [t0, t1]) Try.func5 rfl Try.ntmps5 (Nat.le_of_ble_eq_true rfl) ?_
  unfold f5 at h
  refine wp_seq ?_
  refine L_region ?_
  refine L_u (P_bx h) ?_
  intro v w h
  refine L_u (P_bx h) ?_
  intro v w h
  refine L_as ?_
  refine L_nil ?_
  refine E_n ?_
  refine wp_seq ?_
  refine wp_seq ?_
  refine L_region ?_
  refine L_u (N_cl Try.func7 rfl nn7 (fun w Q h => s7 w Q h) h) ?_
  intro v w h
  refine L_u (P_nt h) ?_
  intro v w h
  refine L_nil ?_
  refine E_n ?_
  refine C_cnd h (fun h => ?_) (fun h => ?_)
  · refine wp_seq ?_
    refine L_region ?_
    refine L_as ?_
    refine L_nil ?_
    refine E_n ?_
    refine C_ret ?_
    show bodyPost Try.prog Try.f5 (Rt Q) .ret _ _
    exact post_tmps (ts := [4]) (.inr rfl) rfl h
  · refine C_skip ?_
    refine E_n ?_
    refine wp_seq ?_
    refine D_region (by decide +kernel) 9 rfl ?_
    replace h := dr_e h
    refine G_p 0 rfl (by decide +kernel) (Y_iaa ae41 h) ?_
    intro v h
    refine G_r _ 1 rfl (by decide +kernel) (R_ld sc2 h) ?_
    intro v h
    refine G_p 2 rfl (by decide +kernel) (Y_iaa ae41 h) ?_
    intro v h
    refine G_r _ 3 rfl (by decide +kernel) (R_ld sc2 h) ?_
    intro v h
    refine G_p 4 rfl (by decide +kernel) (Y_iaa ae41 h) ?_
    intro v h
    refine G_r _ 5 rfl (by decide +kernel) (R_ld sc2 h) ?_
    intro v h
    refine G_p 6 rfl (by decide +kernel) (Y_as h) ?_
    intro v h
    refine G_p 7 rfl (by decide +kernel) (Y_as h) ?_
    intro v h
    refine G_p 8 rfl (by decide +kernel) (Y_as h) ?_
    intro v h
    refine G_done (by decide +kernel) ?_
    refine E_n ?_
    refine wp_seq ?_
    refine wp_seq ?_
    refine L_region ?_
    refine L_mv ?_
    refine L_mv ?_
    refine L_u (P_gt h) ?_
    intro v w h
    refine L_mv ?_
    refine L_g (t := 23) h rfl rfl (fun c h => P_mv h c) ?_
    intro v w h
    refine L_g (t := 23) h rfl rfl (fun c h => P_mv h c) ?_
    intro v w h
    refine L_g (t := 23) h rfl rfl (fun c h => P_gt h c) ?_
    intro v w h
    refine L_u (P_pk h) ?_
    intro v w h
    refine L_mv ?_
    refine L_g (t := 28) h rfl rfl (fun c h => P_mv h c) ?_
    intro v w h
    refine L_g (t := 28) h rfl rfl (fun c h => P_lt h c) ?_
    intro v w h
    refine L_u (P_pk h) ?_
    intro v w h
    refine L_mv ?_
    refine L_g (t := 32) h rfl rfl (fun c h => P_mv h c) ?_
    intro v w h
    refine L_g (t := 32) h rfl rfl (fun c h => P_gt h c) ?_
    intro v w h
    refine L_u (P_pk h) ?_
    intro v w h
    refine L_nil ?_
    refine E_n ?_
    refine C_cnd h (fun h => ?_) (fun h => ?_)
    · refine wp_seq ?_
      refine L_region ?_
      refine L_as ?_
      refine L_nil ?_
      refine E_n ?_
      refine C_ret ?_
      show bodyPost Try.prog Try.f5 (Rt Q) .ret _ _
      exact post_tmps (ts := [4]) (.inr rfl) rfl h
    · refine C_skip ?_
      refine E_n ?_
      refine wp_seq ?_
      refine L_region ?_
      refine L_u (P_ldn ag23 h) ?_
      intro v w h
      refine L_u (N_cl Try.func9 rfl nn9 (fun w Q h => s9 _ w Q h) h) ?_
      intro v w h
      refine L_u (P_al ze27 rfl h) ?_
      intro v w h
      refine L_u (P_stn ag27 h) ?_
      intro w h
      refine L_nil ?_
      refine E_n ?_
      refine wp_seq ?_
      refine L_region ?_
      refine L_u (P_ldn ag27 h) ?_
      intro v w h
      refine L_mv ?_
      refine L_u (N_cl Try.func8 rfl nn8 (fun w Q h => s8 _ _ w Q h) h) ?_
      intro v w h
      refine L_mv ?_
      refine L_u (P_ex h) ?_
      intro v w h
      refine L_u (P_ex h) ?_
      intro v w h
      refine L_as ?_
      refine L_as ?_
      refine L_nil ?_
      refine E_n ?_
      refine wp_seq ?_
      refine wp_seq ?_
      refine L_region ?_
      refine L_mv ?_
      refine L_u (P_ldn ag27 h) ?_
      intro v w h
      refine L_u (N_cl Try.func11 rfl nn11 (fun w Q h => s11 _ w Q h) h) ?_
      intro v w h
      refine L_u (P_neb bo4 h) ?_
      intro v w h
      refine L_nil ?_
      refine E_n ?_
      refine C_cnd h (fun h => ?_) (fun h => ?_)
      · refine wp_seq ?_
        refine L_region ?_
        refine L_as ?_
        refine L_nil ?_
        refine E_n ?_
        refine C_ret ?_
        show bodyPost Try.prog Try.f5 (Rt Q) .ret _ _
        exact post_tmps (ts := [4]) (.inr rfl) rfl h
      · refine C_skip ?_
        refine E_n ?_
        refine wp_seq ?_
        refine D_region (by decide +kernel) 10 rfl ?_
        replace h := dr_e h
        refine G_r _ 0 rfl (by decide +kernel) (R_ldn ag27 h) ?_
        intro v h
        refine G_p 1 rfl (by decide +kernel) (Y_mv h) ?_
        intro v h
        refine G_p 2 rfl (by decide +kernel) (Y_mv h) ?_
        intro v h
        refine G_r _ 4 rfl (by decide +kernel) (R_ldn ag27 h) ?_
        intro v h
        refine G_p 5 rfl (by decide +kernel) (Y_mv h) ?_
        intro v h
        refine G_p 6 rfl (by decide +kernel) (Y_mv h) ?_
        intro v h
        refine G_e 3 rfl (by decide +kernel) (N_cl Try.func15 rfl nn15 (fun w Q h => s15 _ _ _ w Q h) h ?_)
        intro v w h
        refine ⟨keepF_cons (kp_1 h) (keepF_dep [0] (by decide +kernel) rfl keepF_nil), ?_⟩
        replace h := (kp_2 h)
        refine G_e 7 rfl (by decide +kernel) (N_cl Try.func15 rfl nn15 (fun w Q h => s15 _ _ _ w Q h) h ?_)
        intro v w h
        refine ⟨keepF_dep [4] (by decide +kernel) rfl (keepF_dep [3, 0] (by decide +kernel) rfl keepF_nil), ?_⟩
        refine G_p 8 rfl (by decide +kernel) (Y_ad h) ?_
        intro v h
        refine G_p 9 rfl (by decide +kernel) (Y_as h) ?_
        intro v h
        refine G_done (by decide +kernel) ?_
        refine E_n ?_
        refine wp_seq ?_
        refine L_region ?_
        refine L_u (P_ldn ag27 h) ?_
        intro v w h
        refine L_mv ?_
        refine L_mv ?_
        refine L_u (N_cl Try.func15 rfl nn15 (fun w Q h => s15 _ _ _ w Q h) h) ?_
        intro v w h
        refine L_mv ?_
        refine L_u (P_eqi h) ?_
        intro v w h
        refine L_mv ?_
        refine L_g (t := 63) h rfl rfl (fun c h => P_mv h c) ?_
        intro v w h
        refine L_g (t := 63) h rfl rfl (fun c h => P_nt h c) ?_
        intro v w h
        refine L_g (t := 63) h rfl rfl (fun c h => P_mv h c) ?_
        intro v w h
        refine L_g (t := 66) h rfl rfl (fun c h => P_mv h c) ?_
        intro v w h
        refine L_g (t := 66) h rfl rfl (fun c h => P_mv h c) ?_
        intro v w h
        refine L_g (t := 66) h rfl rfl (fun c h => P_gt h c) ?_
        intro v w h
        refine L_g (t := 66) h rfl rfl (fun c h => P_mv h c) ?_
        intro v w h
        refine L_g (t := 70) h rfl rfl (fun c h => P_ldn ag27 h c) ?_
        intro v w h
        refine L_g (t := 70) h rfl rfl (fun c h => P_mv h c) ?_
        intro v w h
        refine L_g (t := 70) h rfl rfl (fun c h => N_cl Try.func13 rfl nn13 (fun w Q h => s13 _ _ w Q h) h c) ?_
        intro v w h
        refine L_g (t := 66) h rfl rfl (fun c h => P_pk h c) ?_
        intro v w h
        refine L_g (t := 66) h rfl rfl (fun c h => P_mv h c) ?_
        intro v w h
        refine L_g (t := 75) h rfl rfl (fun c h => P_ldn ag27 h c) ?_
        intro v w h
        refine L_g (t := 75) h rfl rfl (fun c h => P_mv h c) ?_
        intro v w h
        refine L_g (t := 75) h rfl rfl (fun c h => P_ad h c) ?_
        intro v w h
        refine L_g (t := 75) h rfl rfl (fun c h => P_mv h c) ?_
        intro v w h
        refine L_g (t := 75) h rfl rfl (fun c h => N_cl Try.func15 rfl nn15 (fun w Q h => s15 _ _ _ w Q h) h c) ?_
        intro v w h
        refine L_g (t := 75) h rfl rfl (fun c h => P_eqi h c) ?_
        intro v w h
        refine L_g (t := 66) h rfl rfl (fun c h => P_pk h c) ?_
        intro v w h
        refine L_g (t := 66) h rfl rfl (fun c h => P_mv h c) ?_
        intro v w h
        refine L_g (t := 83) h rfl rfl (fun c h => P_ldn ag27 h c) ?_
        intro v w h
        refine L_g (t := 83) h rfl rfl (fun c h => P_mv h c) ?_
        intro v w h
        refine L_g (t := 83) h rfl rfl (fun c h => P_mv h c) ?_
        intro v w h
        refine L_g (t := 83) h rfl rfl (fun c h => P_ad h c) ?_
        intro v w h
        refine L_g (t := 83) h rfl rfl (fun c h => N_cl Try.func15 rfl nn15 (fun w Q h => s15 _ _ _ w Q h) h c) ?_
        intro v w h
        refine L_g (t := 83) h rfl rfl (fun c h => P_eqi h c) ?_
        intro v w h
        refine L_g (t := 66) h rfl rfl (fun c h => P_pk h c) ?_
        intro v w h
        refine L_g (t := 63) h rfl rfl (fun c h => P_pk h c) ?_
        intro v w h
        refine L_u (P_pk h) ?_
        intro v w h
        refine L_as ?_
        refine L_nil ?_
        refine E_n ?_
        refine C_ret ?_
        show bodyPost Try.prog Try.f5 (Rt Q) .ret _ _
        exact post_tmps (ts := [4]) (.inr rfl) rfl h
end Go.Proofs.Ytnckcgpmidgggaa
