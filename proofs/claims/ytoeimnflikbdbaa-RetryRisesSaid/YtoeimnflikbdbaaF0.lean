/- Functions as predicate transformers, and that the machine does what they say, by program. -/
import Derived.Test.YtoeimnflikbdbaaTy
set_option linter.unusedVariables false
set_option maxRecDepth 20000
set_option maxHeartbeats 4000000
namespace Go.Proofs.Ytoeimnflikbdbaa
open Sh
attribute [local irreducible] wpL anyG act jn lo gdB amb kp smr nc fa ld ldn st stn ad su mu qu re lt le gt ge eqi nei bws shl shr cat eqs nes lts gts eqb neb nt pk cv al bx ex fld fldn lnl lns ia iaa ixs sls sll sla mif mnm mxm mm asrt sm smu cl cc cf ci cnd gd gdu
/- factotum/retry.Right -/
def f14 (t0 : Value) : M :=
  bx 29 t0 fun t1 =>
  fa 0 t1 fun t4 =>
  ld t4 fun t5 =>
  ge .i64 t5 (.int .i64 0) fun t6 =>
  gd t6 true (fa 0 t1) fun t8 =>
  gd t6 true (ld t8) fun t9 =>
  gd t6 true (fa 1 t1) fun t10 =>
  gd t6 true (ld t10) fun t11 =>
  gd t6 true (le .i64 t9 t11) fun t12 =>
  pk t6 t12 (.bool false) fun t13 =>
  gd t13 true (fa 1 t1) fun t15 =>
  gd t13 true (ld t15) fun t16 =>
  gd t13 true (le .i64 t16 (.int .i64 1099511627776)) fun t17 =>
  pk t13 t17 (.bool false) fun t18 =>
  gd t18 true (fa 2 t1) fun t21 =>
  gd t18 true (ld t21) fun t22 =>
  gd t18 true (ge .i64 t22 (.int .i64 1)) fun t23 =>
  pk t18 t23 (.bool false) fun t24 =>
  gd t24 true (fa 2 t1) fun t26 =>
  gd t24 true (ld t26) fun t27 =>
  gd t24 true (le .i64 t27 (.int .i64 16)) fun t28 =>
  pk t24 t28 (.bool false) fun t29 =>
  gd t29 true (fa 3 t1) fun t31 =>
  gd t29 true (ld t31) fun t32 =>
  gd t29 true (ge .i64 t32 (.int .i64 1)) fun t33 =>
  pk t29 t33 (.bool false) fun t34 =>
  gd t34 true (fa 3 t1) fun t36 =>
  gd t34 true (ld t36) fun t37 =>
  gd t34 true (le .i64 t37 (.int .i64 64)) fun t38 =>
  pk t34 t38 (.bool false) fun t39 =>
  rt t39
theorem s14 (t0 : Value) (w : World) (Q : Value → World → Prop) (h : f14 t0 w Q) : Calls Try.prog 14 #[t0] w (Rt Q) := by
  refine calls_of (l := [t0]) Try.func14 rfl Try.ntmps14 (Nat.le_of_ble_eq_true rfl) ?_
  unfold f14 at h
  refine wp_seq ?_
  refine L_region ?_
  refine L_u (P_bx h) ?_
  intro v w h
  refine L_as ?_
  refine L_nil ?_
  refine E_n ?_
  refine wp_seq ?_
  refine L_region ?_
  refine L_u (P_fa fo29_0 h) ?_
  intro v w h
  refine L_u (P_ld sc2 h) ?_
  intro v w h
  refine L_u (P_ge h) ?_
  intro v w h
  refine L_mv ?_
  refine L_g (t := 7) h rfl rfl (fun c h => P_fa fo29_0 h c) ?_
  intro v w h
  refine L_g (t := 7) h rfl rfl (fun c h => P_ld sc2 h c) ?_
  intro v w h
  refine L_g (t := 7) h rfl rfl (fun c h => P_fa fo29_1 h c) ?_
  intro v w h
  refine L_g (t := 7) h rfl rfl (fun c h => P_ld sc2 h c) ?_
  intro v w h
  refine L_g (t := 7) h rfl rfl (fun c h => P_le h c) ?_
  intro v w h
  refine L_u (P_pk h) ?_
  intro v w h
  refine L_mv ?_
  refine L_g (t := 14) h rfl rfl (fun c h => P_fa fo29_1 h c) ?_
  intro v w h
  refine L_g (t := 14) h rfl rfl (fun c h => P_ld sc2 h c) ?_
  intro v w h
  refine L_g (t := 14) h rfl rfl (fun c h => P_le h c) ?_
  intro v w h
  refine L_u (P_pk h) ?_
  intro v w h
  refine L_as ?_
  refine L_nil ?_
  refine E_n ?_
  refine wp_seq ?_
  refine L_region ?_
  refine L_mv ?_
  refine L_mv ?_
  refine L_g (t := 20) h rfl rfl (fun c h => P_fa fo29_2 h c) ?_
  intro v w h
  refine L_g (t := 20) h rfl rfl (fun c h => P_ld sc3 h c) ?_
  intro v w h
  refine L_g (t := 20) h rfl rfl (fun c h => P_ge h c) ?_
  intro v w h
  refine L_u (P_pk h) ?_
  intro v w h
  refine L_mv ?_
  refine L_g (t := 25) h rfl rfl (fun c h => P_fa fo29_2 h c) ?_
  intro v w h
  refine L_g (t := 25) h rfl rfl (fun c h => P_ld sc3 h c) ?_
  intro v w h
  refine L_g (t := 25) h rfl rfl (fun c h => P_le h c) ?_
  intro v w h
  refine L_u (P_pk h) ?_
  intro v w h
  refine L_mv ?_
  refine L_g (t := 30) h rfl rfl (fun c h => P_fa fo29_3 h c) ?_
  intro v w h
  refine L_g (t := 30) h rfl rfl (fun c h => P_ld sc3 h c) ?_
  intro v w h
  refine L_g (t := 30) h rfl rfl (fun c h => P_ge h c) ?_
  intro v w h
  refine L_u (P_pk h) ?_
  intro v w h
  refine L_mv ?_
  refine L_g (t := 35) h rfl rfl (fun c h => P_fa fo29_3 h c) ?_
  intro v w h
  refine L_g (t := 35) h rfl rfl (fun c h => P_ld sc3 h c) ?_
  intro v w h
  refine L_g (t := 35) h rfl rfl (fun c h => P_le h c) ?_
  intro v w h
  refine L_u (P_pk h) ?_
  intro v w h
  refine L_as ?_
  refine L_nil ?_
  refine E_n ?_
  refine C_ret ?_
  show bodyPost Try.prog Try.f14 (Rt Q) .ret _ _
  exact post_tmps (ts := [2]) (.inr rfl) rfl h

/- factotum/retry.waits -/
def f20_b2 (j1 : Value → M) (self2 : Value → Value → Value → M) (t1_1 t3 t4 : Value) : M :=
  lnl t3 fun t12 =>
  fa 3 t1_1 fun t13 =>
  ld t13 fun t14 =>
  lt .i64 t12 t14 fun t15 =>
  cnd t15 (
    sm Try.prog (Instr.buildSlice 25 1 #[(0, t4)]) fun t25 =>
    sm Try.prog (Builtin.append_ #[25, 25] 25 #[t3, t25]) fun t26 =>
    fa 2 t1_1 fun t17 =>
    ld t17 fun t18 =>
    mu .i64 t4 t18 fun t19 =>
    fa 1 t1_1 fun t20 =>
    ld t20 fun t21 =>
    mnm t19 t21 fun t22 =>
    self2 t1_1 t26 t22
    ) (
    j1 t3
    )
def f20_j1 (t3_1 : Value) : M :=
  rt t3_1
def f20 (t0 : Value) : M :=
  bx 29 t0 fun t1 =>
  ldn 4 t1 fun t5 =>
  cl (f14 t5) fun t6 =>
  nt t6 fun t7 =>
  cnd t7 (
    rt (.slice none 0 0)
    ) (
    sm Try.prog (Instr.buildSlice 25 1 #[(0, (.int .i64 0))]) fun t8 =>
    fa 0 t1 fun t9 =>
    ld t9 fun t10 =>
    jn (fun (j1 : Value → M) =>
      lo (fun _ _ _ => bot) (f20_b2 j1) (fun l => l t1 t8 t10)
      ) (f20_j1)
    )
theorem s20 (t0 : Value) (w : World) (Q : Value → World → Prop) (h : f20 t0 w Q) : Calls Try.prog 20 #[t0] w (Rt Q) := by
  refine calls_of (l := [t0]) Try.func20 rfl Try.ntmps20 (Nat.le_of_ble_eq_true rfl) ?_
  unfold f20 at h
  refine wp_seq ?_
  refine L_region ?_
  refine L_u (P_bx h) ?_
  intro v w h
  refine L_as ?_
  refine L_nil ?_
  refine E_n ?_
  refine wp_seq ?_
  refine wp_seq ?_
  refine L_region ?_
  refine L_u (P_ldn ag29 h) ?_
  intro v w h
  refine L_u (N_cl Try.func14 rfl nn14 (fun w Q h => s14 _ w Q h) h) ?_
  intro v w h
  refine L_u (P_nt h) ?_
  intro v w h
  refine L_nil ?_
  refine E_n ?_
  refine C_cnd h (fun h => ?_) (fun h => ?_)
  · refine wp_seq ?_
    refine L_region ?_
    refine L_as ?_
    refine L_nil ?_
    refine E_n ?_
    refine C_ret ?_
    show bodyPost Try.prog Try.f20 (Rt Q) .ret _ _
    exact post_tmps (ts := [2]) (.inr rfl) rfl h
  · refine C_skip ?_
    refine E_n ?_
    refine wp_seq ?_
    refine L_region ?_
    refine L_u (N_bsl h) ?_
    intro v w h
    refine L_as ?_
    refine L_nil ?_
    refine E_n ?_
    refine wp_seq ?_
    refine wp_seq ?_
    refine L_region ?_
    refine L_u (P_fa fo29_0 h) ?_
    intro v w h
    refine L_u (P_ld sc2 h) ?_
    intro v w h
    refine L_as ?_
    refine L_nil ?_
    refine E_n ?_
    refine C_join (fun (k : Value → M) (ρ : Nat → Value) => k (ρ 3)) h (fun j1 J1 h => ?_) (fun ρ w h => ?_)
    · refine C_blk ?_
      refine C_lo (fun (l : Value → Value → Value → M) (ρ : Nat → Value) => l (ρ 1) (ρ 3) (ρ 4)) h (fun ρ w h => h) (fun nx self2 L2 ρ w h => ?_)
      unfold f20_b2 at h
      refine wp_seq ?_
      refine wp_seq ?_
      refine L_region ?_
      refine L_mv ?_
      refine L_u (P_lnl is25 h) ?_
      intro v w h
      refine L_u (P_fa fo29_3 h) ?_
      intro v w h
      refine L_u (P_ld sc3 h) ?_
      intro v w h
      refine L_u (P_lt h) ?_
      intro v w h
      refine L_nil ?_
      refine E_n ?_
      refine C_cnd h (fun h => ?_) (fun h => ?_)
      · refine C_skip ?_
        refine E_n ?_
        refine wp_seq ?_
        refine C_blk ?_
        refine L_region ?_
        refine L_mv ?_
        refine L_mv ?_
        refine L_u (N_bsl h) ?_
        intro v w h
        refine L_u (N_bi rfl h) ?_
        intro v w h
        refine L_as ?_
        refine L_nil ?_
        refine B_n ?_
        refine E_n ?_
        refine L_region ?_
        refine L_mv ?_
        refine L_u (P_fa fo29_2 h) ?_
        intro v w h
        refine L_u (P_ld sc3 h) ?_
        intro v w h
        refine L_u (P_mu h) ?_
        intro v w h
        refine L_u (P_fa fo29_1 h) ?_
        intro v w h
        refine L_u (P_ld sc2 h) ?_
        intro v w h
        refine L_u (P_mnm (t := 0) h) ?_
        intro v w h
        refine L_as ?_
        refine L_nil ?_
        refine E_n ?_
        exact L2 _ _ h
      · refine C_exit ?_
        refine E_x ?_
        refine E_x ?_
        refine B_x ?_
        exact J1 _ _ h
    · unfold f20_j1 at h
      refine E_n ?_
      refine wp_seq ?_
      refine L_region ?_
      refine L_mv ?_
      refine L_as ?_
      refine L_nil ?_
      refine E_n ?_
      refine C_ret ?_
      show bodyPost Try.prog Try.f20 (Rt Q) .ret _ _
      exact post_tmps (ts := [2]) (.inr rfl) rfl h

/- factotum/retry.Times -/
def f10_b2 (j1 : Value → M) (self2 : Value → Value → Value → Value → M) (t1_1 t5 t10_1 t11 : Value) : M :=
  lt .i64 t11 t10_1 fun t12 =>
  cnd t12 (
    ia 1 t5 t11 fun t17 =>
    ld t17 fun t18 =>
    ad .i64 t1_1 t18 fun t19 =>
    ia 1 t5 t11 fun t23 =>
    st t23 t19 <|
    ad .i64 t11 (.int .i64 1) fun t24 =>
    self2 t19 t5 t10_1 t24
    ) (
    j1 t5
    )
def f10_j1 (t5_1 : Value) : M :=
  rt t5_1
def f10 (t0 t1 : Value) : M :=
  bx 29 t0 fun t2 =>
  ldn 4 t2 fun t7 =>
  cl (f20 t7) fun t8 =>
  lnl t8 fun t10 =>
  jn (fun (j1 : Value → M) =>
    lo (fun _ _ _ _ => bot) (f10_b2 j1) (fun l => l t1 t8 t10 (.int .i64 0))
    ) (f10_j1)
theorem s10 (t0 t1 : Value) (w : World) (Q : Value → World → Prop) (h : f10 t0 t1 w Q) : Calls Try.prog 10 #[t0, t1] w (Rt Q) := by
  refine calls_of (l := [t0, t1]) Try.func10 rfl Try.ntmps10 (Nat.le_of_ble_eq_true rfl) ?_
  unfold f10 at h
  refine wp_seq ?_
  refine L_region ?_
  refine L_u (P_bx h) ?_
  intro v w h
  refine L_as ?_
  refine L_nil ?_
  refine E_n ?_
  refine wp_seq ?_
  refine L_region ?_
  refine L_u (P_ldn ag29 h) ?_
  intro v w h
  refine L_u (N_cl Try.func20 rfl nn20 (fun w Q h => s20 _ w Q h) h) ?_
  intro v w h
  refine L_as ?_
  refine L_nil ?_
  refine E_n ?_
  refine wp_seq ?_
  refine wp_seq ?_
  refine L_region ?_
  refine L_mv ?_
  refine L_u (P_lnl is25 h) ?_
  intro v w h
  refine L_mv ?_
  refine L_nil ?_
  refine E_n ?_
  refine C_join (fun (k : Value → M) (ρ : Nat → Value) => k (ρ 5)) h (fun j1 J1 h => ?_) (fun ρ w h => ?_)
  · refine C_blk ?_
    refine C_lo (fun (l : Value → Value → Value → Value → M) (ρ : Nat → Value) => l (ρ 1) (ρ 5) (ρ 10) (ρ 11)) h (fun ρ w h => h) (fun nx self2 L2 ρ w h => ?_)
    unfold f10_b2 at h
    refine wp_seq ?_
    refine L_region ?_
    refine L_u (P_lt h) ?_
    intro v w h
    refine L_nil ?_
    refine E_n ?_
    refine wp_seq ?_
    refine C_cnd h (fun h => ?_) (fun h => ?_)
    · refine C_skip ?_
      refine E_n ?_
      refine wp_seq ?_
      refine C_blk ?_
      refine wp_seq ?_
      refine L_region ?_
      refine L_mv ?_
      refine L_as ?_
      refine L_nil ?_
      refine E_n ?_
      refine wp_seq ?_
      refine L_region ?_
      refine L_mv ?_
      refine L_mv ?_
      refine L_mv ?_
      refine L_u (P_ia se25 h) ?_
      intro v w h
      refine L_u (P_ld sc2 h) ?_
      intro v w h
      refine L_u (P_ad h) ?_
      intro v w h
      refine L_as ?_
      refine L_nil ?_
      refine E_n ?_
      refine L_region ?_
      refine L_mv ?_
      refine L_mv ?_
      refine L_mv ?_
      refine L_u (P_ia se25 h) ?_
      intro v w h
      refine L_u (P_st on2 h) ?_
      intro w h
      refine L_nil ?_
      refine B_n ?_
      refine E_n ?_
      refine L_region ?_
      refine L_u (P_ad h) ?_
      intro v w h
      refine L_mv ?_
      refine L_nil ?_
      refine E_n ?_
      exact L2 _ _ h
    · refine C_exit ?_
      refine E_x ?_
      refine E_x ?_
      refine B_x ?_
      exact J1 _ _ h
  · unfold f10_j1 at h
    refine E_n ?_
    refine wp_seq ?_
    refine L_region ?_
    refine L_mv ?_
    refine L_as ?_
    refine L_nil ?_
    refine E_n ?_
    refine C_ret ?_
    show bodyPost Try.prog Try.f10 (Rt Q) .ret _ _
    exact post_tmps (ts := [4]) (.inr rfl) rfl h

/- factotum/retry.Due -/
def f12_j3 (self2 : Value → Value → Value → Value → Value → M) (t2_2 t7_1 t12_2 t13_2 t14_1 : Value) : M :=
  ad .i64 t14_1 (.int .i64 1) fun t23 =>
  self2 t2_2 t7_1 t12_2 t13_2 t23
def f12_b2 (j1 : Value → M) (self2 : Value → Value → Value → Value → Value → M) (t2_1 t7 t12_1 t13_1 t14 : Value) : M :=
  lt .i64 t14 t13_1 fun t15 =>
  cnd t15 (
    ia 1 t12_1 t14 fun t16 =>
    ld t16 fun t17 =>
    le .i64 t17 t2_1 fun t20 =>
    jn (fun (j3 : Value → Value → Value → Value → Value → M) =>
      cnd t20 (
        ad .i64 t7 (.int .i64 1) fun t22 =>
        j3 t2_1 t22 t12_1 t13_1 t14
        ) (
        j3 t2_1 t7 t12_1 t13_1 t14
        )
      ) (f12_j3 self2)
    ) (
    j1 t7
    )
def f12_j1 (t7_2 : Value) : M :=
  rt t7_2
def f12 (t0 t1 t2 : Value) : M :=
  bx 29 t0 fun t3 =>
  ldn 4 t3 fun t10 =>
  cl (f10 t10 t1) fun t12 =>
  lnl t12 fun t13 =>
  jn (fun (j1 : Value → M) =>
    lo (fun _ _ _ _ _ => bot) (f12_b2 j1) (fun l => l t2 (.int .i64 0) t12 t13 (.int .i64 0))
    ) (f12_j1)
theorem s12 (t0 t1 t2 : Value) (w : World) (Q : Value → World → Prop) (h : f12 t0 t1 t2 w Q) : Calls Try.prog 12 #[t0, t1, t2] w (Rt Q) := by
  refine calls_of (l := [t0, t1, t2]) Try.func12 rfl Try.ntmps12 (Nat.le_of_ble_eq_true rfl) ?_
  unfold f12 at h
  refine wp_seq ?_
  refine L_region ?_
  refine L_u (P_bx h) ?_
  intro v w h
  refine L_as ?_
  refine L_nil ?_
  refine E_n ?_
  refine wp_seq ?_
  refine L_region ?_
  refine L_as ?_
  refine L_nil ?_
  refine E_n ?_
  refine wp_seq ?_
  refine wp_seq ?_
  refine L_region ?_
  refine L_u (P_ldn ag29 h) ?_
  intro v w h
  refine L_mv ?_
  refine L_u (N_cl Try.func10 rfl nn10 (fun w Q h => s10 _ _ w Q h) h) ?_
  intro v w h
  refine L_u (P_lnl is25 h) ?_
  intro v w h
  refine L_mv ?_
  refine L_nil ?_
  refine E_n ?_
  refine C_join (fun (k : Value → M) (ρ : Nat → Value) => k (ρ 7)) h (fun j1 J1 h => ?_) (fun ρ w h => ?_)
  · refine C_blk ?_
    refine C_lo (fun (l : Value → Value → Value → Value → Value → M) (ρ : Nat → Value) => l (ρ 2) (ρ 7) (ρ 12) (ρ 13) (ρ 14)) h (fun ρ w h => h) (fun nx self2 L2 ρ w h => ?_)
    unfold f12_b2 at h
    refine wp_seq ?_
    refine L_region ?_
    refine L_u (P_lt h) ?_
    intro v w h
    refine L_nil ?_
    refine E_n ?_
    refine wp_seq ?_
    refine C_cnd h (fun h => ?_) (fun h => ?_)
    · refine C_skip ?_
      refine E_n ?_
      refine wp_seq ?_
      refine C_blk ?_
      refine wp_seq ?_
      refine L_region ?_
      refine L_u (P_ia se25 h) ?_
      intro v w h
      refine L_u (P_ld sc2 h) ?_
      intro v w h
      refine L_as ?_
      refine L_nil ?_
      refine E_n ?_
      refine wp_seq ?_
      refine L_region ?_
      refine L_mv ?_
      refine L_mv ?_
      refine L_u (P_le h) ?_
      intro v w h
      refine L_nil ?_
      refine E_n ?_
      refine C_join (fun (k : Value → Value → Value → Value → Value → M) (ρ : Nat → Value) => k (ρ 2) (ρ 7) (ρ 12) (ρ 13) (ρ 14)) h (fun j3 J3 h => ?_) (fun ρ w h => ?_)
      · refine C_cnd h (fun h => ?_) (fun h => ?_)
        · refine L_region ?_
          refine L_mv ?_
          refine L_u (P_ad h) ?_
          intro v w h
          refine L_as ?_
          refine L_nil ?_
          exact J3 _ _ h
        · refine C_skip ?_
          exact J3 _ _ h
      · unfold f12_j3 at h
        refine B_n ?_
        refine E_n ?_
        refine L_region ?_
        refine L_u (P_ad h) ?_
        intro v w h
        refine L_mv ?_
        refine L_nil ?_
        refine E_n ?_
        exact L2 _ _ h
    · refine C_exit ?_
      refine E_x ?_
      refine E_x ?_
      refine B_x ?_
      exact J1 _ _ h
  · unfold f12_j1 at h
    refine E_n ?_
    refine wp_seq ?_
    refine L_region ?_
    refine L_mv ?_
    refine L_as ?_
    refine L_nil ?_
    refine E_n ?_
    refine C_ret ?_
    show bodyPost Try.prog Try.f12 (Rt Q) .ret _ _
    exact post_tmps (ts := [6]) (.inr rfl) rfl h

/- factotum/retry.Total -/
def f13_b2 (j1 : Value → M) (self2 : Value → Value → Value → Value → M) (t3 t7_1 t8_1 t9 : Value) : M :=
  lt .i64 t9 t8_1 fun t10 =>
  cnd t10 (
    ia 1 t7_1 t9 fun t11 =>
    ld t11 fun t12 =>
    ad .i64 t3 t12 fun t15 =>
    ad .i64 t9 (.int .i64 1) fun t16 =>
    self2 t15 t7_1 t8_1 t16
    ) (
    j1 t3
    )
def f13_j1 (t3_1 : Value) : M :=
  rt t3_1
def f13 (t0 : Value) : M :=
  bx 29 t0 fun t1 =>
  ldn 4 t1 fun t6 =>
  cl (f20 t6) fun t7 =>
  lnl t7 fun t8 =>
  jn (fun (j1 : Value → M) =>
    lo (fun _ _ _ _ => bot) (f13_b2 j1) (fun l => l (.int .i64 0) t7 t8 (.int .i64 0))
    ) (f13_j1)
theorem s13 (t0 : Value) (w : World) (Q : Value → World → Prop) (h : f13 t0 w Q) : Calls Try.prog 13 #[t0] w (Rt Q) := by
  refine calls_of (l := [t0]) Try.func13 rfl Try.ntmps13 (Nat.le_of_ble_eq_true rfl) ?_
  unfold f13 at h
  refine wp_seq ?_
  refine L_region ?_
  refine L_u (P_bx h) ?_
  intro v w h
  refine L_as ?_
  refine L_nil ?_
  refine E_n ?_
  refine wp_seq ?_
  refine L_region ?_
  refine L_as ?_
  refine L_nil ?_
  refine E_n ?_
  refine wp_seq ?_
  refine wp_seq ?_
  refine L_region ?_
  refine L_u (P_ldn ag29 h) ?_
  intro v w h
  refine L_u (N_cl Try.func20 rfl nn20 (fun w Q h => s20 _ w Q h) h) ?_
  intro v w h
  refine L_u (P_lnl is25 h) ?_
  intro v w h
  refine L_mv ?_
  refine L_nil ?_
  refine E_n ?_
  refine C_join (fun (k : Value → M) (ρ : Nat → Value) => k (ρ 3)) h (fun j1 J1 h => ?_) (fun ρ w h => ?_)
  · refine C_blk ?_
    refine C_lo (fun (l : Value → Value → Value → Value → M) (ρ : Nat → Value) => l (ρ 3) (ρ 7) (ρ 8) (ρ 9)) h (fun ρ w h => h) (fun nx self2 L2 ρ w h => ?_)
    unfold f13_b2 at h
    refine wp_seq ?_
    refine L_region ?_
    refine L_u (P_lt h) ?_
    intro v w h
    refine L_nil ?_
    refine E_n ?_
    refine wp_seq ?_
    refine C_cnd h (fun h => ?_) (fun h => ?_)
    · refine C_skip ?_
      refine E_n ?_
      refine wp_seq ?_
      refine C_blk ?_
      refine wp_seq ?_
      refine L_region ?_
      refine L_u (P_ia se25 h) ?_
      intro v w h
      refine L_u (P_ld sc2 h) ?_
      intro v w h
      refine L_as ?_
      refine L_nil ?_
      refine E_n ?_
      refine L_region ?_
      refine L_mv ?_
      refine L_mv ?_
      refine L_u (P_ad h) ?_
      intro v w h
      refine L_as ?_
      refine L_nil ?_
      refine B_n ?_
      refine E_n ?_
      refine L_region ?_
      refine L_u (P_ad h) ?_
      intro v w h
      refine L_mv ?_
      refine L_nil ?_
      refine E_n ?_
      exact L2 _ _ h
    · refine C_exit ?_
      refine E_x ?_
      refine E_x ?_
      refine B_x ?_
      exact J1 _ _ h
  · unfold f13_j1 at h
    refine E_n ?_
    refine wp_seq ?_
    refine L_region ?_
    refine L_mv ?_
    refine L_as ?_
    refine L_nil ?_
    refine E_n ?_
    refine C_ret ?_
    show bodyPost Try.prog Try.f13 (Rt Q) .ret _ _
    exact post_tmps (ts := [2]) (.inr rfl) rfl h

/- factotum/factotumlaw33.lives -/
def f7 : M :=
  smr Try.prog (Instr.build 29 #[(0, (.int .i64 10)), (1, (.int .i64 50)), (2, (.int .i64 2)), (3, (.int .i64 5))]) fun t3 =>
  al 29 #[(.int .i64 0), (.int .i64 0), (.int .i64 0), (.int .i64 0)] fun t1 =>
  stn 4 t1 t3 <|
  ldn 4 t1 fun t4 =>
  cl (f10 t4 (.int .i64 0)) fun t5 =>
  ldn 4 t1 fun t6 =>
  cl (f14 t6) fun t7 =>
  gd t7 true (idv t5) fun t9 =>
  gd t7 true (lnl t9) fun t10 =>
  gd t7 true (eqi .i64 t10 (.int .i64 5)) fun t11 =>
  pk t7 t11 (.bool false) fun t12 =>
  gd t12 true (idv t5) fun t14 =>
  gd t12 true (ia 1 t14 (.int .i64 0)) fun t15 =>
  gd t12 true (ld t15) fun t16 =>
  gd t12 true (eqi .i64 t16 (.int .i64 0)) fun t17 =>
  pk t12 t17 (.bool false) fun t18 =>
  gd t18 true (idv t5) fun t20 =>
  gd t18 true (ia 1 t20 (.int .i64 1)) fun t21 =>
  gd t18 true (ld t21) fun t22 =>
  gd t18 true (eqi .i64 t22 (.int .i64 10)) fun t23 =>
  pk t18 t23 (.bool false) fun t24 =>
  gd t24 true (idv t5) fun t26 =>
  gd t24 true (ia 1 t26 (.int .i64 2)) fun t27 =>
  gd t24 true (ld t27) fun t28 =>
  gd t24 true (eqi .i64 t28 (.int .i64 30)) fun t29 =>
  pk t24 t29 (.bool false) fun t30 =>
  gd t30 true (idv t5) fun t32 =>
  gd t30 true (ia 1 t32 (.int .i64 3)) fun t33 =>
  gd t30 true (ld t33) fun t34 =>
  gd t30 true (eqi .i64 t34 (.int .i64 70)) fun t35 =>
  pk t30 t35 (.bool false) fun t36 =>
  gd t36 true (idv t5) fun t38 =>
  gd t36 true (ia 1 t38 (.int .i64 4)) fun t39 =>
  gd t36 true (ld t39) fun t40 =>
  gd t36 true (eqi .i64 t40 (.int .i64 120)) fun t41 =>
  pk t36 t41 (.bool false) fun t42 =>
  gd t42 true (ldn 4 t1) fun t44 =>
  gd t42 true (cl (f13 t44)) fun t45 =>
  gd t42 true (eqi .i64 t45 (.int .i64 120)) fun t46 =>
  pk t42 t46 (.bool false) fun t47 =>
  gd t47 true (ldn 4 t1) fun t49 =>
  gd t47 true (cl (f12 t49 (.int .i64 0) (.int .i64 69))) fun t50 =>
  gd t47 true (eqi .i64 t50 (.int .i64 3)) fun t51 =>
  pk t47 t51 (.bool false) fun t52 =>
  rt t52
theorem s7 (w : World) (Q : Value → World → Prop) (h : f7 w Q) : Calls Try.prog 7 #[] w (Rt Q) := by
  refine calls_of (l := []) Try.func7 rfl Try.ntmps7 (Nat.le_of_ble_eq_true rfl) ?_
  unfold f7 at h
  refine wp_seq ?_
  refine L_region ?_
  refine L_as ?_
  refine L_nil ?_
  refine E_n ?_
  refine wp_seq ?_
  refine L_region ?_
  refine L_u (N_bld h) ?_
  intro v w h
  refine L_u (P_al ze29 rfl h) ?_
  intro v w h
  refine L_u (P_stn ag29 h) ?_
  intro w h
  refine L_nil ?_
  refine E_n ?_
  refine wp_seq ?_
  refine L_region ?_
  refine L_u (P_ldn ag29 h) ?_
  intro v w h
  refine L_u (N_cl Try.func10 rfl nn10 (fun w Q h => s10 _ _ w Q h) h) ?_
  intro v w h
  refine L_as ?_
  refine L_nil ?_
  refine E_n ?_
  refine wp_seq ?_
  refine L_region ?_
  refine L_u (P_ldn ag29 h) ?_
  intro v w h
  refine L_u (N_cl Try.func14 rfl nn14 (fun w Q h => s14 _ w Q h) h) ?_
  intro v w h
  refine L_mv ?_
  refine L_g (t := 8) h rfl rfl (fun c h => P_mv h c) ?_
  intro v w h
  refine L_g (t := 8) h rfl rfl (fun c h => P_lnl is25 h c) ?_
  intro v w h
  refine L_g (t := 8) h rfl rfl (fun c h => P_eqi h c) ?_
  intro v w h
  refine L_u (P_pk h) ?_
  intro v w h
  refine L_mv ?_
  refine L_g (t := 13) h rfl rfl (fun c h => P_mv h c) ?_
  intro v w h
  refine L_g (t := 13) h rfl rfl (fun c h => P_ia se25 h c) ?_
  intro v w h
  refine L_g (t := 13) h rfl rfl (fun c h => P_ld sc2 h c) ?_
  intro v w h
  refine L_g (t := 13) h rfl rfl (fun c h => P_eqi h c) ?_
  intro v w h
  refine L_u (P_pk h) ?_
  intro v w h
  refine L_mv ?_
  refine L_g (t := 19) h rfl rfl (fun c h => P_mv h c) ?_
  intro v w h
  refine L_g (t := 19) h rfl rfl (fun c h => P_ia se25 h c) ?_
  intro v w h
  refine L_g (t := 19) h rfl rfl (fun c h => P_ld sc2 h c) ?_
  intro v w h
  refine L_g (t := 19) h rfl rfl (fun c h => P_eqi h c) ?_
  intro v w h
  refine L_u (P_pk h) ?_
  intro v w h
  refine L_mv ?_
  refine L_g (t := 25) h rfl rfl (fun c h => P_mv h c) ?_
  intro v w h
  refine L_g (t := 25) h rfl rfl (fun c h => P_ia se25 h c) ?_
  intro v w h
  refine L_g (t := 25) h rfl rfl (fun c h => P_ld sc2 h c) ?_
  intro v w h
  refine L_g (t := 25) h rfl rfl (fun c h => P_eqi h c) ?_
  intro v w h
  refine L_u (P_pk h) ?_
  intro v w h
  refine L_mv ?_
  refine L_g (t := 31) h rfl rfl (fun c h => P_mv h c) ?_
  intro v w h
  refine L_g (t := 31) h rfl rfl (fun c h => P_ia se25 h c) ?_
  intro v w h
  refine L_g (t := 31) h rfl rfl (fun c h => P_ld sc2 h c) ?_
  intro v w h
  refine L_g (t := 31) h rfl rfl (fun c h => P_eqi h c) ?_
  intro v w h
  refine L_u (P_pk h) ?_
  intro v w h
  refine L_mv ?_
  refine L_g (t := 37) h rfl rfl (fun c h => P_mv h c) ?_
  intro v w h
  refine L_g (t := 37) h rfl rfl (fun c h => P_ia se25 h c) ?_
  intro v w h
  refine L_g (t := 37) h rfl rfl (fun c h => P_ld sc2 h c) ?_
  intro v w h
  refine L_g (t := 37) h rfl rfl (fun c h => P_eqi h c) ?_
  intro v w h
  refine L_u (P_pk h) ?_
  intro v w h
  refine L_mv ?_
  refine L_g (t := 43) h rfl rfl (fun c h => P_ldn ag29 h c) ?_
  intro v w h
  refine L_g (t := 43) h rfl rfl (fun c h => N_cl Try.func13 rfl nn13 (fun w Q h => s13 _ w Q h) h c) ?_
  intro v w h
  refine L_g (t := 43) h rfl rfl (fun c h => P_eqi h c) ?_
  intro v w h
  refine L_u (P_pk h) ?_
  intro v w h
  refine L_mv ?_
  refine L_g (t := 48) h rfl rfl (fun c h => P_ldn ag29 h c) ?_
  intro v w h
  refine L_g (t := 48) h rfl rfl (fun c h => N_cl Try.func12 rfl nn12 (fun w Q h => s12 _ _ _ w Q h) h c) ?_
  intro v w h
  refine L_g (t := 48) h rfl rfl (fun c h => P_eqi h c) ?_
  intro v w h
  refine L_u (P_pk h) ?_
  intro v w h
  refine L_as ?_
  refine L_nil ?_
  refine E_n ?_
  refine C_ret ?_
  show bodyPost Try.prog Try.f7 (Rt Q) .ret _ _
  exact post_tmps (ts := [0]) (.inr rfl) rfl h

/- factotum/factotumref33.Right -/
def f19 (t0 : Value) : M :=
  bx 23 t0 fun t1 =>
  fa 0 t1 fun t3 =>
  ld t3 fun t4 =>
  ge .i64 t4 (.int .i64 0) fun t5 =>
  gd t5 true (fa 0 t1) fun t7 =>
  gd t5 true (ld t7) fun t8 =>
  gd t5 true (le .i64 t8 (.int .i64 1099511627776)) fun t9 =>
  pk t5 t9 (.bool false) fun t10 =>
  gd t10 true (fa 1 t1) fun t12 =>
  gd t10 true (ld t12) fun t13 =>
  gd t10 true (fa 0 t1) fun t14 =>
  gd t10 true (ld t14) fun t15 =>
  gd t10 true (ge .i64 t13 t15) fun t16 =>
  pk t10 t16 (.bool false) fun t17 =>
  gd t17 true (fa 1 t1) fun t19 =>
  gd t17 true (ld t19) fun t20 =>
  gd t17 true (le .i64 t20 (.int .i64 1099511627776)) fun t21 =>
  pk t17 t21 (.bool false) fun t22 =>
  gd t22 true (fa 2 t1) fun t24 =>
  gd t22 true (ld t24) fun t25 =>
  gd t22 true (ge .i64 t25 (.int .i64 1)) fun t26 =>
  pk t22 t26 (.bool false) fun t27 =>
  gd t27 true (fa 2 t1) fun t29 =>
  gd t27 true (ld t29) fun t30 =>
  gd t27 true (le .i64 t30 (.int .i64 16)) fun t31 =>
  pk t27 t31 (.bool false) fun t32 =>
  gd t32 true (fa 3 t1) fun t34 =>
  gd t32 true (ld t34) fun t35 =>
  gd t32 true (ge .i64 t35 (.int .i64 1)) fun t36 =>
  pk t32 t36 (.bool false) fun t37 =>
  gd t37 true (fa 3 t1) fun t39 =>
  gd t37 true (ld t39) fun t40 =>
  gd t37 true (le .i64 t40 (.int .i64 64)) fun t41 =>
  pk t37 t41 (.bool false) fun t42 =>
  rt t42
theorem s19 (t0 : Value) (w : World) (Q : Value → World → Prop) (h : f19 t0 w Q) : Calls Try.prog 19 #[t0] w (Rt Q) := by
  refine calls_of (l := [t0]) Try.func19 rfl Try.ntmps19 (Nat.le_of_ble_eq_true rfl) ?_
  unfold f19 at h
  refine wp_seq ?_
  refine L_region ?_
  refine L_u (P_bx h) ?_
  intro v w h
  refine L_as ?_
  refine L_nil ?_
  refine E_n ?_
  refine wp_seq ?_
  refine L_region ?_
  refine L_u (P_fa fo23_0 h) ?_
  intro v w h
  refine L_u (P_ld sc2 h) ?_
  intro v w h
  refine L_u (P_ge h) ?_
  intro v w h
  refine L_mv ?_
  refine L_g (t := 6) h rfl rfl (fun c h => P_fa fo23_0 h c) ?_
  intro v w h
  refine L_g (t := 6) h rfl rfl (fun c h => P_ld sc2 h c) ?_
  intro v w h
  refine L_g (t := 6) h rfl rfl (fun c h => P_le h c) ?_
  intro v w h
  refine L_u (P_pk h) ?_
  intro v w h
  refine L_mv ?_
  refine L_g (t := 11) h rfl rfl (fun c h => P_fa fo23_1 h c) ?_
  intro v w h
  refine L_g (t := 11) h rfl rfl (fun c h => P_ld sc2 h c) ?_
  intro v w h
  refine L_g (t := 11) h rfl rfl (fun c h => P_fa fo23_0 h c) ?_
  intro v w h
  refine L_g (t := 11) h rfl rfl (fun c h => P_ld sc2 h c) ?_
  intro v w h
  refine L_g (t := 11) h rfl rfl (fun c h => P_ge h c) ?_
  intro v w h
  refine L_u (P_pk h) ?_
  intro v w h
  refine L_mv ?_
  refine L_g (t := 18) h rfl rfl (fun c h => P_fa fo23_1 h c) ?_
  intro v w h
  refine L_g (t := 18) h rfl rfl (fun c h => P_ld sc2 h c) ?_
  intro v w h
  refine L_g (t := 18) h rfl rfl (fun c h => P_le h c) ?_
  intro v w h
  refine L_u (P_pk h) ?_
  intro v w h
  refine L_mv ?_
  refine L_g (t := 23) h rfl rfl (fun c h => P_fa fo23_2 h c) ?_
  intro v w h
  refine L_g (t := 23) h rfl rfl (fun c h => P_ld sc3 h c) ?_
  intro v w h
  refine L_g (t := 23) h rfl rfl (fun c h => P_ge h c) ?_
  intro v w h
  refine L_u (P_pk h) ?_
  intro v w h
  refine L_mv ?_
  refine L_g (t := 28) h rfl rfl (fun c h => P_fa fo23_2 h c) ?_
  intro v w h
  refine L_g (t := 28) h rfl rfl (fun c h => P_ld sc3 h c) ?_
  intro v w h
  refine L_g (t := 28) h rfl rfl (fun c h => P_le h c) ?_
  intro v w h
  refine L_u (P_pk h) ?_
  intro v w h
  refine L_mv ?_
  refine L_g (t := 33) h rfl rfl (fun c h => P_fa fo23_3 h c) ?_
  intro v w h
  refine L_g (t := 33) h rfl rfl (fun c h => P_ld sc3 h c) ?_
  intro v w h
  refine L_g (t := 33) h rfl rfl (fun c h => P_ge h c) ?_
  intro v w h
  refine L_u (P_pk h) ?_
  intro v w h
  refine L_mv ?_
  refine L_g (t := 38) h rfl rfl (fun c h => P_fa fo23_3 h c) ?_
  intro v w h
  refine L_g (t := 38) h rfl rfl (fun c h => P_ld sc3 h c) ?_
  intro v w h
  refine L_g (t := 38) h rfl rfl (fun c h => P_le h c) ?_
  intro v w h
  refine L_u (P_pk h) ?_
  intro v w h
  refine L_as ?_
  refine L_nil ?_
  refine E_n ?_
  refine C_ret ?_
  show bodyPost Try.prog Try.f19 (Rt Q) .ret _ _
  exact post_tmps (ts := [2]) (.inr rfl) rfl h

/- factotum/factotumref33.Wait -/
def f16_b2 (j1 : Value → M) (self2 : Value → Value → Value → Value → M) (t1_1 t2_1 t6 t7 : Value) : M :=
  lt .i64 t7 t1_1 fun t27 =>
  gd t27 true (idv t6) fun t29 =>
  gd t27 true (fa 1 t2_1) fun t30 =>
  gd t27 true (ld t30) fun t31 =>
  gd t27 true (lt .i64 t29 t31) fun t32 =>
  pk t27 t32 (.bool false) fun t33 =>
  cnd t33 (
    fa 2 t2_1 fun t37 =>
    ld t37 fun t38 =>
    mu .i64 t6 t38 fun t39 =>
    fa 1 t2_1 fun t40 =>
    ld t40 fun t41 =>
    mnm t39 t41 fun t42 =>
    ad .i64 t7 (.int .i64 1) fun t35 =>
    self2 t1_1 t2_1 t42 t35
    ) (
    j1 t6
    )
def f16_j1 (t6_1 : Value) : M :=
  rt (.tuple #[t6_1, (.bool true)])
def f16 (t0 t1 : Value) : M :=
  bx 23 t0 fun t2 =>
  ldn 4 t2 fun t8 =>
  cl (f19 t8) fun t9 =>
  nt t9 fun t10 =>
  gd t10 false (idv t1) fun t12 =>
  gd t10 false (lt .i64 t12 (.int .i64 1)) fun t13 =>
  pk t10 (.bool true) t13 fun t14 =>
  gd t14 false (idv t1) fun t16 =>
  gd t14 false (fa 3 t2) fun t17 =>
  gd t14 false (ld t17) fun t18 =>
  gd t14 false (gt .i64 t16 t18) fun t19 =>
  pk t14 (.bool true) t19 fun t20 =>
  cnd t20 (
    rt (.tuple #[(.int .i64 0), (.bool false)])
    ) (
    eqi .i64 t1 (.int .i64 1) fun t22 =>
    cnd t22 (
      rt (.tuple #[(.int .i64 0), (.bool true)])
      ) (
      fa 0 t2 fun t23 =>
      ld t23 fun t24 =>
      jn (fun (j1 : Value → M) =>
        lo (fun _ _ _ _ => bot) (f16_b2 j1) (fun l => l t1 t2 t24 (.int .i64 2))
        ) (f16_j1)
      )
    )
theorem s16 (t0 t1 : Value) (w : World) (Q : Value → World → Prop) (h : f16 t0 t1 w Q) : Calls Try.prog 16 #[t0, t1] w (Rt Q) := by
  refine calls_of (l := [t0, t1]) Try.func16 rfl Try.ntmps16 (Nat.le_of_ble_eq_true rfl) ?_
  unfold f16 at h
  refine wp_seq ?_
  refine L_region ?_
  refine L_u (P_bx h) ?_
  intro v w h
  refine L_as ?_
  refine L_as ?_
  refine L_nil ?_
  refine E_n ?_
  refine wp_seq ?_
  refine wp_seq ?_
  refine L_region ?_
  refine L_u (P_ldn ag23 h) ?_
  intro v w h
  refine L_u (N_cl Try.func19 rfl nn19 (fun w Q h => s19 _ w Q h) h) ?_
  intro v w h
  refine L_u (P_nt h) ?_
  intro v w h
  refine L_mv ?_
  refine L_g (t := 11) h rfl rfl (fun c h => P_mv h c) ?_
  intro v w h
  refine L_g (t := 11) h rfl rfl (fun c h => P_lt h c) ?_
  intro v w h
  refine L_u (P_pk h) ?_
  intro v w h
  refine L_mv ?_
  refine L_g (t := 15) h rfl rfl (fun c h => P_mv h c) ?_
  intro v w h
  refine L_g (t := 15) h rfl rfl (fun c h => P_fa fo23_3 h c) ?_
  intro v w h
  refine L_g (t := 15) h rfl rfl (fun c h => P_ld sc3 h c) ?_
  intro v w h
  refine L_g (t := 15) h rfl rfl (fun c h => P_gt h c) ?_
  intro v w h
  refine L_u (P_pk h) ?_
  intro v w h
  refine L_nil ?_
  refine E_n ?_
  refine C_cnd h (fun h => ?_) (fun h => ?_)
  · refine wp_seq ?_
    refine L_region ?_
    refine L_as ?_
    refine L_as ?_
    refine L_nil ?_
    refine E_n ?_
    refine C_ret ?_
    show bodyPost Try.prog Try.f16 (Rt Q) .ret _ _
    exact post_tmps (ts := [4, 5]) (.inr rfl) rfl h
  · refine C_skip ?_
    refine E_n ?_
    refine wp_seq ?_
    refine wp_seq ?_
    refine L_region ?_
    refine L_mv ?_
    refine L_u (P_eqi h) ?_
    intro v w h
    refine L_nil ?_
    refine E_n ?_
    refine C_cnd h (fun h => ?_) (fun h => ?_)
    · refine wp_seq ?_
      refine L_region ?_
      refine L_as ?_
      refine L_as ?_
      refine L_nil ?_
      refine E_n ?_
      refine C_ret ?_
      show bodyPost Try.prog Try.f16 (Rt Q) .ret _ _
      exact post_tmps (ts := [4, 5]) (.inr rfl) rfl h
    · refine C_skip ?_
      refine E_n ?_
      refine wp_seq ?_
      refine L_region ?_
      refine L_u (P_fa fo23_0 h) ?_
      intro v w h
      refine L_u (P_ld sc2 h) ?_
      intro v w h
      refine L_as ?_
      refine L_nil ?_
      refine E_n ?_
      refine wp_seq ?_
      refine wp_seq ?_
      refine L_region ?_
      refine L_as ?_
      refine L_nil ?_
      refine E_n ?_
      refine C_join (fun (k : Value → M) (ρ : Nat → Value) => k (ρ 6)) h (fun j1 J1 h => ?_) (fun ρ w h => ?_)
      · refine C_blk ?_
        refine C_lo (fun (l : Value → Value → Value → Value → M) (ρ : Nat → Value) => l (ρ 1) (ρ 2) (ρ 6) (ρ 7)) h (fun ρ w h => h) (fun nx self2 L2 ρ w h => ?_)
        unfold f16_b2 at h
        refine wp_seq ?_
        refine wp_seq ?_
        refine L_region ?_
        refine L_mv ?_
        refine L_mv ?_
        refine L_u (P_lt h) ?_
        intro v w h
        refine L_mv ?_
        refine L_g (t := 28) h rfl rfl (fun c h => P_mv h c) ?_
        intro v w h
        refine L_g (t := 28) h rfl rfl (fun c h => P_fa fo23_1 h c) ?_
        intro v w h
        refine L_g (t := 28) h rfl rfl (fun c h => P_ld sc2 h c) ?_
        intro v w h
        refine L_g (t := 28) h rfl rfl (fun c h => P_lt h c) ?_
        intro v w h
        refine L_u (P_pk h) ?_
        intro v w h
        refine L_nil ?_
        refine E_n ?_
        refine C_cnd h (fun h => ?_) (fun h => ?_)
        · refine C_skip ?_
          refine E_n ?_
          refine wp_seq ?_
          refine C_blk ?_
          refine L_region ?_
          refine L_mv ?_
          refine L_u (P_fa fo23_2 h) ?_
          intro v w h
          refine L_u (P_ld sc3 h) ?_
          intro v w h
          refine L_u (P_mu h) ?_
          intro v w h
          refine L_u (P_fa fo23_1 h) ?_
          intro v w h
          refine L_u (P_ld sc2 h) ?_
          intro v w h
          refine L_u (P_mnm (t := 0) h) ?_
          intro v w h
          refine L_as ?_
          refine L_nil ?_
          refine B_n ?_
          refine E_n ?_
          refine L_region ?_
          refine L_mv ?_
          refine L_u (P_ad h) ?_
          intro v w h
          refine L_as ?_
          refine L_nil ?_
          refine E_n ?_
          exact L2 _ _ h
        · refine C_exit ?_
          refine E_x ?_
          refine E_x ?_
          refine B_x ?_
          exact J1 _ _ h
      · unfold f16_j1 at h
        refine E_n ?_
        refine wp_seq ?_
        refine L_region ?_
        refine L_mv ?_
        refine L_as ?_
        refine L_as ?_
        refine L_nil ?_
        refine E_n ?_
        refine C_ret ?_
        show bodyPost Try.prog Try.f16 (Rt Q) .ret _ _
        exact post_tmps (ts := [4, 5]) (.inr rfl) rfl h

/- factotum/factotumref33.Times -/
def f8_b2 (j1 : Value → M) (self2 : Value → Value → Value → Value → M) (t1_1 t2_1 t5 t6 : Value) : M :=
  fa 3 t2_1 fun t10 =>
  ld t10 fun t11 =>
  le .i64 t6 t11 fun t12 =>
  cnd t12 (
    ldn 4 t2_1 fun t16 =>
    cl (f16 t16 t6) fun t18 =>
    ex 0 t18 fun t19 =>
    ex 1 t18 fun t20 =>
    nt t20 fun t22 =>
    cnd t22 (
      rt (.slice none 0 0)
      ) (
      cv .u64 t1_1 fun t24 =>
      cv .u64 t19 fun t26 =>
      ad .u64 t24 t26 fun t27 =>
      cv .i64 t27 fun t28 =>
      sm Try.prog (Instr.buildSlice 25 1 #[(0, t28)]) fun t31 =>
      sm Try.prog (Builtin.append_ #[25, 25] 25 #[t5, t31]) fun t32 =>
      ad .i64 t6 (.int .i64 1) fun t14 =>
      self2 t28 t2_1 t32 t14
      )
    ) (
    j1 t5
    )
def f8_j1 (t5_1 : Value) : M :=
  rt t5_1
def f8 (t0 t1 : Value) : M :=
  bx 23 t0 fun t2 =>
  jn (fun (j1 : Value → M) =>
    lo (fun _ _ _ _ => bot) (f8_b2 j1) (fun l => l t1 t2 (.slice none 0 0) (.int .i64 1))
    ) (f8_j1)
theorem s8 (t0 t1 : Value) (w : World) (Q : Value → World → Prop) (h : f8 t0 t1 w Q) : Calls Try.prog 8 #[t0, t1] w (Rt Q) := by
  refine calls_of (l := [t0, t1]) Try.func8 rfl Try.ntmps8 (Nat.le_of_ble_eq_true rfl) ?_
  unfold f8 at h
  refine wp_seq ?_
  refine L_region ?_
  refine L_u (P_bx h) ?_
  intro v w h
  refine L_as ?_
  refine L_nil ?_
  refine E_n ?_
  refine wp_seq ?_
  refine L_region ?_
  refine L_as ?_
  refine L_nil ?_
  refine E_n ?_
  refine wp_seq ?_
  refine wp_seq ?_
  refine L_region ?_
  refine L_as ?_
  refine L_nil ?_
  refine E_n ?_
  refine C_join (fun (k : Value → M) (ρ : Nat → Value) => k (ρ 5)) h (fun j1 J1 h => ?_) (fun ρ w h => ?_)
  · refine C_blk ?_
    refine C_lo (fun (l : Value → Value → Value → Value → M) (ρ : Nat → Value) => l (ρ 1) (ρ 2) (ρ 5) (ρ 6)) h (fun ρ w h => h) (fun nx self2 L2 ρ w h => ?_)
    unfold f8_b2 at h
    refine wp_seq ?_
    refine wp_seq ?_
    refine L_region ?_
    refine L_mv ?_
    refine L_u (P_fa fo23_3 h) ?_
    intro v w h
    refine L_u (P_ld sc3 h) ?_
    intro v w h
    refine L_u (P_le h) ?_
    intro v w h
    refine L_nil ?_
    refine E_n ?_
    refine C_cnd h (fun h => ?_) (fun h => ?_)
    · refine C_skip ?_
      refine E_n ?_
      refine wp_seq ?_
      refine C_blk ?_
      refine wp_seq ?_
      refine L_region ?_
      refine L_u (P_ldn ag23 h) ?_
      intro v w h
      refine L_mv ?_
      refine L_u (N_cl Try.func16 rfl nn16 (fun w Q h => s16 _ _ w Q h) h) ?_
      intro v w h
      refine L_mv ?_
      refine L_u (P_ex h) ?_
      intro v w h
      refine L_u (P_ex h) ?_
      intro v w h
      refine L_as ?_
      refine L_as ?_
      refine L_nil ?_
      refine E_n ?_
      refine wp_seq ?_
      refine wp_seq ?_
      refine L_region ?_
      refine L_mv ?_
      refine L_u (P_nt h) ?_
      intro v w h
      refine L_nil ?_
      refine E_n ?_
      refine C_cnd h (fun h => ?_) (fun h => ?_)
      · refine wp_seq ?_
        refine L_region ?_
        refine L_as ?_
        refine L_nil ?_
        refine E_n ?_
        refine C_ret ?_
        show bodyPost Try.prog Try.f8 (Rt Q) .ret _ _
        exact post_tmps (ts := [4]) (.inr rfl) rfl h
      · refine C_skip ?_
        refine E_n ?_
        refine wp_seq ?_
        refine L_region ?_
        refine L_mv ?_
        refine L_u (P_cv ai2 in34 h) ?_
        intro v w h
        refine L_mv ?_
        refine L_u (P_cv ai2 in34 h) ?_
        intro v w h
        refine L_u (P_ad h) ?_
        intro v w h
        refine L_u (P_cv ai34 in2 h) ?_
        intro v w h
        refine L_as ?_
        refine L_nil ?_
        refine E_n ?_
        refine L_region ?_
        refine L_mv ?_
        refine L_mv ?_
        refine L_u (N_bsl h) ?_
        intro v w h
        refine L_u (N_bi rfl h) ?_
        intro v w h
        refine L_as ?_
        refine L_nil ?_
        refine B_n ?_
        refine E_n ?_
        refine L_region ?_
        refine L_mv ?_
        refine L_u (P_ad h) ?_
        intro v w h
        refine L_as ?_
        refine L_nil ?_
        refine E_n ?_
        exact L2 _ _ h
    · refine C_exit ?_
      refine E_x ?_
      refine E_x ?_
      refine B_x ?_
      exact J1 _ _ h
  · unfold f8_j1 at h
    refine E_n ?_
    refine wp_seq ?_
    refine L_region ?_
    refine L_mv ?_
    refine L_as ?_
    refine L_nil ?_
    refine E_n ?_
    refine C_ret ?_
    show bodyPost Try.prog Try.f8 (Rt Q) .ret _ _
    exact post_tmps (ts := [4]) (.inr rfl) rfl h

/- factotum/factotumlaw33.same -/
def f9_b2 (j1 : M) (self2 : Value → Value → Value → M) (t0_1 t1_1 t5 : Value) : M :=
  lnl t0_1 fun t13 =>
  lt .i64 t5 t13 fun t14 =>
  cnd t14 (
    dr <|
    idv t0_1 fun t17 =>
    idv t5 fun t18 =>
    ia 1 t17 t18 fun t19 =>
    ld t19 fun t20 =>
    idv t1_1 fun t21 =>
    idv t5 fun t22 =>
    ia 1 t21 t22 fun t23 =>
    ld t23 fun t24 =>
    nei .i64 t20 t24 fun t25 =>
    cnd t25 (
      rt (.bool false)
      ) (
      ad .i64 t5 (.int .i64 1) fun t16 =>
      self2 t0_1 t1_1 t16
      )
    ) (
    j1
    )
def f9_j1 : M :=
  rt (.bool true)
def f9 (t0 t1 : Value) : M :=
  lnl t0 fun t7 =>
  lnl t1 fun t9 =>
  nei .i64 t7 t9 fun t10 =>
  cnd t10 (
    rt (.bool false)
    ) (
    jn (fun (j1 : M) =>
      lo (fun _ _ _ => bot) (f9_b2 j1) (fun l => l t0 t1 (.int .i64 0))
      ) (f9_j1)
    )
theorem s9 (t0 t1 : Value) (w : World) (Q : Value → World → Prop) (h : f9 t0 t1 w Q) : Calls Try.prog 9 #[t0, t1] w (Rt Q) := by
  refine calls_of (l := [t0, t1]) Try.func9 rfl Try.ntmps9 (Nat.le_of_ble_eq_true rfl) ?_
  unfold f9 at h
  refine wp_seq ?_
  refine L_region ?_
  refine L_as ?_
  refine L_nil ?_
  refine E_n ?_
  refine wp_seq ?_
  refine wp_seq ?_
  refine L_region ?_
  refine L_mv ?_
  refine L_u (P_lnl is25 h) ?_
  intro v w h
  refine L_mv ?_
  refine L_u (P_lnl is25 h) ?_
  intro v w h
  refine L_u (P_nei h) ?_
  intro v w h
  refine L_nil ?_
  refine E_n ?_
  refine C_cnd h (fun h => ?_) (fun h => ?_)
  · refine wp_seq ?_
    refine L_region ?_
    refine L_as ?_
    refine L_nil ?_
    refine E_n ?_
    refine C_ret ?_
    show bodyPost Try.prog Try.f9 (Rt Q) .ret _ _
    exact post_tmps (ts := [4]) (.inr rfl) rfl h
  · refine C_skip ?_
    refine E_n ?_
    refine wp_seq ?_
    refine wp_seq ?_
    refine L_region ?_
    refine L_as ?_
    refine L_nil ?_
    refine E_n ?_
    refine C_join (fun (k : M) (ρ : Nat → Value) => k) h (fun j1 J1 h => ?_) (fun ρ w h => ?_)
    · refine C_blk ?_
      refine C_lo (fun (l : Value → Value → Value → M) (ρ : Nat → Value) => l (ρ 0) (ρ 1) (ρ 5)) h (fun ρ w h => h) (fun nx self2 L2 ρ w h => ?_)
      unfold f9_b2 at h
      refine wp_seq ?_
      refine wp_seq ?_
      refine L_region ?_
      refine L_mv ?_
      refine L_mv ?_
      refine L_u (P_lnl is25 h) ?_
      intro v w h
      refine L_u (P_lt h) ?_
      intro v w h
      refine L_nil ?_
      refine E_n ?_
      refine C_cnd h (fun h => ?_) (fun h => ?_)
      · refine C_skip ?_
        refine E_n ?_
        refine wp_seq ?_
        refine C_blk ?_
        refine wp_seq ?_
        refine D_region (by decide +kernel) 9 rfl ?_
        replace h := dr_e h
        refine G_p 0 rfl (by decide +kernel) (Y_mv h) ?_
        intro v h
        refine G_p 1 rfl (by decide +kernel) (Y_mv h) ?_
        intro v h
        refine G_p 2 rfl (by decide +kernel) (Y_ia se25 h) ?_
        intro v h
        refine G_r _ 3 rfl (by decide +kernel) (R_ld sc2 h) ?_
        intro v h
        refine G_p 4 rfl (by decide +kernel) (Y_mv h) ?_
        intro v h
        refine G_p 5 rfl (by decide +kernel) (Y_mv h) ?_
        intro v h
        refine G_p 6 rfl (by decide +kernel) (Y_ia se25 h) ?_
        intro v h
        refine G_r _ 7 rfl (by decide +kernel) (R_ld sc2 h) ?_
        intro v h
        refine G_p 8 rfl (by decide +kernel) (Y_nei h) ?_
        intro v h
        refine G_done (by decide +kernel) ?_
        refine E_n ?_
        refine C_cnd h (fun h => ?_) (fun h => ?_)
        · refine wp_seq ?_
          refine L_region ?_
          refine L_as ?_
          refine L_nil ?_
          refine E_n ?_
          refine C_ret ?_
          show bodyPost Try.prog Try.f9 (Rt Q) .ret _ _
          exact post_tmps (ts := [4]) (.inr rfl) rfl h
        · refine C_skip ?_
          refine B_n ?_
          refine E_n ?_
          refine L_region ?_
          refine L_mv ?_
          refine L_u (P_ad h) ?_
          intro v w h
          refine L_as ?_
          refine L_nil ?_
          refine E_n ?_
          exact L2 _ _ h
      · refine C_exit ?_
        refine E_x ?_
        refine E_x ?_
        refine B_x ?_
        exact J1 _ _ h
    · unfold f9_j1 at h
      refine E_n ?_
      refine wp_seq ?_
      refine L_region ?_
      refine L_as ?_
      refine L_nil ?_
      refine E_n ?_
      refine C_ret ?_
      show bodyPost Try.prog Try.f9 (Rt Q) .ret _ _
      exact post_tmps (ts := [4]) (.inr rfl) rfl h

/- factotum/factotumlaw33.as -/
def f11 (t0 : Value) : M :=
  bx 23 t0 fun t1 =>
  al 29 #[(.int .i64 0), (.int .i64 0), (.int .i64 0), (.int .i64 0)] fun t2 =>
  fa 0 t1 fun t3 =>
  ld t3 fun t4 =>
  fa 1 t1 fun t5 =>
  ld t5 fun t6 =>
  fa 2 t1 fun t7 =>
  ld t7 fun t8 =>
  fa 3 t1 fun t9 =>
  ld t9 fun t10 =>
  smr Try.prog (Instr.build 29 #[(0, t4), (1, t6), (2, t8), (3, t10)]) fun t11 =>
  stn 4 t2 t11 <|
  ldn 4 t2 fun r0 =>
  rt r0
theorem s11 (t0 : Value) (w : World) (Q : Value → World → Prop) (h : f11 t0 w Q) : Calls Try.prog 11 #[t0] w (Rt Q) := by
  refine calls_of (l := [t0]) Try.func11 rfl Try.ntmps11 (Nat.le_of_ble_eq_true rfl) ?_
  unfold f11 at h
  refine wp_seq ?_
  refine L_region ?_
  refine L_u (P_bx h) ?_
  intro v w h
  refine L_u (P_al ze29 rfl h) ?_
  intro v w h
  refine L_nil ?_
  refine E_n ?_
  refine wp_seq ?_
  refine L_region ?_
  refine L_u (P_fa fo23_0 h) ?_
  intro v w h
  refine L_u (P_ld sc2 h) ?_
  intro v w h
  refine L_u (P_fa fo23_1 h) ?_
  intro v w h
  refine L_u (P_ld sc2 h) ?_
  intro v w h
  refine L_u (P_fa fo23_2 h) ?_
  intro v w h
  refine L_u (P_ld sc3 h) ?_
  intro v w h
  refine L_u (P_fa fo23_3 h) ?_
  intro v w h
  refine L_u (P_ld sc3 h) ?_
  intro v w h
  refine L_u (N_bld h) ?_
  intro v w h
  refine L_u (P_stn ag29 h) ?_
  intro w h
  refine L_nil ?_
  refine E_n ?_
  refine C_ret ?_
  show bodyPost Try.prog Try.f11 (Rt Q) .ret _ _
  refine post_res [.cell 2 29] (.inr rfl) rfl ?_
  refine res_ldn 2 29 ag29 (by exact h) (fun _ hr0 h => ?_)
  exact ⟨[_], ⟨hr0, trivial⟩, h⟩

/- factotum/factotumlaw33.RetryTimes -/
def f3_j3 (self2 : Value → Value → Value → Value → Value → Value → M) (t1_2 t2_2 t3_2 t7_1 t8_1 t9_1 : Value) : M :=
  ad .i64 t9_1 (.int .i64 1) fun t22 =>
  self2 t1_2 t2_2 t3_2 t7_1 t8_1 t22
def f3_b2 (j1 : Value → Value → Value → Value → Value → M) (self2 : Value → Value → Value → Value → Value → Value → M) (t1_1 t2_1 t3_1 t7 t8 t9 : Value) : M :=
  lnl t7 fun t19 =>
  lt .i64 t9 t19 fun t20 =>
  cnd t20 (
    ia 1 t7 t9 fun t25 =>
    ld t25 fun t26 =>
    le .i64 t26 t2_1 fun t28 =>
    jn (fun (j3 : Value → Value → Value → Value → Value → Value → M) =>
      cnd t28 (
        ad .i64 t8 (.int .i64 1) fun t30 =>
        j3 t1_1 t2_1 t3_1 t7 t30 t9
        ) (
        j3 t1_1 t2_1 t3_1 t7 t8 t9
        )
      ) (f3_j3 self2)
    ) (
    j1 t1_1 t2_1 t3_1 t7 t8
    )
def f3_j4 (t1_4 t2_4 t3_4 t7_3 t8_3 t10 : Value) : M :=
  ldn 4 t3_4 fun t42 =>
  cl (f11 t42) fun t43 =>
  cl (f10 t43 t1_4) fun t45 =>
  cl (f9 t45 t7_3) fun t47 =>
  gd t47 true (ldn 4 t3_4) fun t49 =>
  gd t47 true (cl (f11 t49)) fun t50 =>
  gd t47 true (idv t1_4) fun t51 =>
  gd t47 true (idv t2_4) fun t52 =>
  gd t47 true (cl (f12 t50 t51 t52)) fun t53 =>
  gd t47 true (idv t8_3) fun t54 =>
  gd t47 true (eqi .i64 t53 t54) fun t55 =>
  pk t47 t55 (.bool false) fun t56 =>
  gd t56 true (ldn 4 t3_4) fun t58 =>
  gd t56 true (cl (f11 t58)) fun t59 =>
  gd t56 true (cl (f13 t59)) fun t60 =>
  gd t56 true (idv t10) fun t61 =>
  gd t56 true (eqi .i64 t60 t61) fun t62 =>
  pk t56 t62 (.bool false) fun t63 =>
  rt t63
def f3_j1 (t1_3 t2_3 t3_3 t7_2 t8_2 : Value) : M :=
  ldn 4 t3_3 fun t31 =>
  cl (f8 t31 (.int .i64 0)) fun t32 =>
  lnl t32 fun t34 =>
  gt .i64 t34 (.int .i64 0) fun t35 =>
  jn (fun (j4 : Value → Value → Value → Value → Value → Value → M) =>
    cnd t35 (
      lnl t32 fun t38 =>
      su .i64 t38 (.int .i64 1) fun t39 =>
      ia 1 t32 t39 fun t40 =>
      ld t40 fun t41 =>
      j4 t1_3 t2_3 t3_3 t7_2 t8_2 t41
      ) (
      j4 t1_3 t2_3 t3_3 t7_2 t8_2 (.int .i64 0)
      )
    ) (f3_j4)
def f3 (t0 t1 t2 : Value) : M :=
  bx 23 t0 fun t3 =>
  cl (f7) fun t12 =>
  nt t12 fun t13 =>
  cnd t13 (
    rt (.bool false)
    ) (
    ldn 4 t3 fun t14 =>
    cl (f8 t14 t1) fun t16 =>
    jn (fun (j1 : Value → Value → Value → Value → Value → M) =>
      lo (fun _ _ _ _ _ _ => bot) (f3_b2 j1) (fun l => l t1 t2 t3 t16 (.int .i64 0) (.int .i64 0))
      ) (f3_j1)
    )
theorem s3 (t0 t1 t2 : Value) (w : World) (Q : Value → World → Prop) (h : f3 t0 t1 t2 w Q) : Calls Try.prog 3 #[t0, t1, t2] w (Rt Q) := by
  refine calls_of (l := [t0, t1, t2]) Try.func3 rfl Try.ntmps3 (Nat.le_of_ble_eq_true rfl) ?_
  unfold f3 at h
  refine wp_seq ?_
  refine L_region ?_
  refine L_u (P_bx h) ?_
  intro v w h
  refine L_as ?_
  refine L_nil ?_
  refine E_n ?_
  refine wp_seq ?_
  refine wp_seq ?_
  refine L_region ?_
  refine L_u (N_cl Try.func7 rfl nn7 (fun w Q h => s7 w Q h) h) ?_
  intro v w h
  refine L_u (P_nt h) ?_
  intro v w h
  refine L_nil ?_
  refine E_n ?_
  refine C_cnd h (fun h => ?_) (fun h => ?_)
  · refine wp_seq ?_
    refine L_region ?_
    refine L_as ?_
    refine L_nil ?_
    refine E_n ?_
    refine C_ret ?_
    show bodyPost Try.prog Try.f3 (Rt Q) .ret _ _
    exact post_tmps (ts := [6]) (.inr rfl) rfl h
  · refine C_skip ?_
    refine E_n ?_
    refine wp_seq ?_
    refine L_region ?_
    refine L_u (P_ldn ag23 h) ?_
    intro v w h
    refine L_mv ?_
    refine L_u (N_cl Try.func8 rfl nn8 (fun w Q h => s8 _ _ w Q h) h) ?_
    intro v w h
    refine L_as ?_
    refine L_nil ?_
    refine E_n ?_
    refine wp_seq ?_
    refine L_region ?_
    refine L_as ?_
    refine L_nil ?_
    refine E_n ?_
    refine wp_seq ?_
    refine wp_seq ?_
    refine L_region ?_
    refine L_as ?_
    refine L_nil ?_
    refine E_n ?_
    refine C_join (fun (k : Value → Value → Value → Value → Value → M) (ρ : Nat → Value) => k (ρ 1) (ρ 2) (ρ 3) (ρ 7) (ρ 8)) h (fun j1 J1 h => ?_) (fun ρ w h => ?_)
    · refine C_blk ?_
      refine C_lo (fun (l : Value → Value → Value → Value → Value → Value → M) (ρ : Nat → Value) => l (ρ 1) (ρ 2) (ρ 3) (ρ 7) (ρ 8) (ρ 9)) h (fun ρ w h => h) (fun nx self2 L2 ρ w h => ?_)
      unfold f3_b2 at h
      refine wp_seq ?_
      refine wp_seq ?_
      refine L_region ?_
      refine L_mv ?_
      refine L_mv ?_
      refine L_u (P_lnl is25 h) ?_
      intro v w h
      refine L_u (P_lt h) ?_
      intro v w h
      refine L_nil ?_
      refine E_n ?_
      refine C_cnd h (fun h => ?_) (fun h => ?_)
      · refine C_skip ?_
        refine E_n ?_
        refine wp_seq ?_
        refine C_blk ?_
        refine wp_seq ?_
        refine L_region ?_
        refine L_mv ?_
        refine L_mv ?_
        refine L_u (P_ia se25 h) ?_
        intro v w h
        refine L_u (P_ld sc2 h) ?_
        intro v w h
        refine L_mv ?_
        refine L_u (P_le h) ?_
        intro v w h
        refine L_nil ?_
        refine E_n ?_
        refine C_join (fun (k : Value → Value → Value → Value → Value → Value → M) (ρ : Nat → Value) => k (ρ 1) (ρ 2) (ρ 3) (ρ 7) (ρ 8) (ρ 9)) h (fun j3 J3 h => ?_) (fun ρ w h => ?_)
        · refine C_cnd h (fun h => ?_) (fun h => ?_)
          · refine L_region ?_
            refine L_mv ?_
            refine L_u (P_ad h) ?_
            intro v w h
            refine L_as ?_
            refine L_nil ?_
            exact J3 _ _ h
          · refine C_skip ?_
            exact J3 _ _ h
        · unfold f3_j3 at h
          refine B_n ?_
          refine E_n ?_
          refine L_region ?_
          refine L_mv ?_
          refine L_u (P_ad h) ?_
          intro v w h
          refine L_as ?_
          refine L_nil ?_
          refine E_n ?_
          exact L2 _ _ h
      · refine C_exit ?_
        refine E_x ?_
        refine E_x ?_
        refine B_x ?_
        exact J1 _ _ h
    · unfold f3_j1 at h
      refine E_n ?_
      refine wp_seq ?_
      refine L_region ?_
      refine L_as ?_
      refine L_nil ?_
      refine E_n ?_
      refine wp_seq ?_
      refine L_region ?_
      refine L_u (P_ldn ag23 h) ?_
      intro v w h
      refine L_u (N_cl Try.func8 rfl nn8 (fun w Q h => s8 _ _ w Q h) h) ?_
      intro v w h
      refine L_as ?_
      refine L_nil ?_
      refine E_n ?_
      refine wp_seq ?_
      refine wp_seq ?_
      refine L_region ?_
      refine L_mv ?_
      refine L_u (P_lnl is25 h) ?_
      intro v w h
      refine L_u (P_gt h) ?_
      intro v w h
      refine L_nil ?_
      refine E_n ?_
      refine C_join (fun (k : Value → Value → Value → Value → Value → Value → M) (ρ : Nat → Value) => k (ρ 1) (ρ 2) (ρ 3) (ρ 7) (ρ 8) (ρ 10)) h (fun j4 J4 h => ?_) (fun ρ w h => ?_)
      · refine C_cnd h (fun h => ?_) (fun h => ?_)
        · refine L_region ?_
          refine L_mv ?_
          refine L_mv ?_
          refine L_u (P_lnl is25 h) ?_
          intro v w h
          refine L_u (P_su h) ?_
          intro v w h
          refine L_u (P_ia se25 h) ?_
          intro v w h
          refine L_u (P_ld sc2 h) ?_
          intro v w h
          refine L_as ?_
          refine L_nil ?_
          exact J4 _ _ h
        · refine C_skip ?_
          exact J4 _ _ h
      · unfold f3_j4 at h
        refine E_n ?_
        refine wp_seq ?_
        refine L_region ?_
        refine L_u (P_ldn ag23 h) ?_
        intro v w h
        refine L_u (N_cl Try.func11 rfl nn11 (fun w Q h => s11 _ w Q h) h) ?_
        intro v w h
        refine L_mv ?_
        refine L_u (N_cl Try.func10 rfl nn10 (fun w Q h => s10 _ _ w Q h) h) ?_
        intro v w h
        refine L_mv ?_
        refine L_u (N_cl Try.func9 rfl nn9 (fun w Q h => s9 _ _ w Q h) h) ?_
        intro v w h
        refine L_mv ?_
        refine L_g (t := 48) h rfl rfl (fun c h => P_ldn ag23 h c) ?_
        intro v w h
        refine L_g (t := 48) h rfl rfl (fun c h => N_cl Try.func11 rfl nn11 (fun w Q h => s11 _ w Q h) h c) ?_
        intro v w h
        refine L_g (t := 48) h rfl rfl (fun c h => P_mv h c) ?_
        intro v w h
        refine L_g (t := 48) h rfl rfl (fun c h => P_mv h c) ?_
        intro v w h
        refine L_g (t := 48) h rfl rfl (fun c h => N_cl Try.func12 rfl nn12 (fun w Q h => s12 _ _ _ w Q h) h c) ?_
        intro v w h
        refine L_g (t := 48) h rfl rfl (fun c h => P_mv h c) ?_
        intro v w h
        refine L_g (t := 48) h rfl rfl (fun c h => P_eqi h c) ?_
        intro v w h
        refine L_u (P_pk h) ?_
        intro v w h
        refine L_mv ?_
        refine L_g (t := 57) h rfl rfl (fun c h => P_ldn ag23 h c) ?_
        intro v w h
        refine L_g (t := 57) h rfl rfl (fun c h => N_cl Try.func11 rfl nn11 (fun w Q h => s11 _ w Q h) h c) ?_
        intro v w h
        refine L_g (t := 57) h rfl rfl (fun c h => N_cl Try.func13 rfl nn13 (fun w Q h => s13 _ w Q h) h c) ?_
        intro v w h
        refine L_g (t := 57) h rfl rfl (fun c h => P_mv h c) ?_
        intro v w h
        refine L_g (t := 57) h rfl rfl (fun c h => P_eqi h c) ?_
        intro v w h
        refine L_u (P_pk h) ?_
        intro v w h
        refine L_as ?_
        refine L_nil ?_
        refine E_n ?_
        refine C_ret ?_
        show bodyPost Try.prog Try.f3 (Rt Q) .ret _ _
        exact post_tmps (ts := [6]) (.inr rfl) rfl h

/- factotum/factotumlaw33.RetryShift -/
def f4_b2 (j1 : Value → Value → Value → M) (self2 : Value → Value → Value → Value → Value → Value → M) (t1_1 t2_1 t3_1 t8_1 t9_1 t10 : Value) : M :=
  lnl t8_1 fun t43 =>
  lt .i64 t10 t43 fun t44 =>
  cnd t44 (
    dr <|
    idv t9_1 fun t47 =>
    idv t10 fun t48 =>
    ia 1 t47 t48 fun t49 =>
    ld t49 fun t50 =>
    cv .u64 t50 fun t51 =>
    idv t8_1 fun t52 =>
    idv t10 fun t53 =>
    ia 1 t52 t53 fun t54 =>
    ld t54 fun t55 =>
    cv .u64 t55 fun t56 =>
    idv t2_1 fun t57 =>
    cv .u64 t57 fun t58 =>
    ad .u64 t56 t58 fun t59 =>
    nei .u64 t51 t59 fun t60 =>
    cnd t60 (
      rt (.bool false)
      ) (
      ad .i64 t10 (.int .i64 1) fun t46 =>
      self2 t1_1 t2_1 t3_1 t8_1 t9_1 t46
      )
    ) (
    j1 t1_1 t3_1 t8_1
    )
def f4_j1 (t1_2 t3_2 t8_2 : Value) : M :=
  lnl t8_2 fun t62 =>
  eqi .i64 t62 (.int .i64 0) fun t63 =>
  gd t63 false (idv t8_2) fun t65 =>
  gd t63 false (lnl t65) fun t66 =>
  gd t63 false (fa 3 t3_2) fun t67 =>
  gd t63 false (ld t67) fun t68 =>
  gd t63 false (eqi .i64 t66 t68) fun t69 =>
  gd t63 false (idv t69) fun t70 =>
  gd t70 true (idv t8_2) fun t71 =>
  gd t70 true (ia 1 t71 (.int .i64 0)) fun t72 =>
  gd t70 true (ld t72) fun t73 =>
  gd t70 true (idv t1_2) fun t74 =>
  gd t70 true (eqi .i64 t73 t74) fun t75 =>
  gd t63 false (pk t70 t75 (.bool false)) fun t76 =>
  pk t63 (.bool true) t76 fun t77 =>
  rt t77
def f4 (t0 t1 t2 : Value) : M :=
  bx 23 t0 fun t3 =>
  cl (f7) fun t11 =>
  nt t11 fun t12 =>
  cnd t12 (
    rt (.bool false)
    ) (
    cv .u64 t1 fun t14 =>
    cv .u64 t2 fun t16 =>
    ad .u64 t14 t16 fun t17 =>
    cv .i64 t17 fun t18 =>
    dr <|
    ldn 4 t3 fun t19 =>
    idv t1 fun t21 =>
    ldn 4 t3 fun t23 =>
    idv t18 fun t25 =>
    cl (f11 t19) fun t20 =>
    kp (Kldn 4 t3 t23) <|
    cl (f10 t20 t21) fun t22 =>
    kp (Kldn 4 t3 t23) <|
    cl (f11 t23) fun t24 =>
    cl (f10 t24 t25) fun t26 =>
    idv t22 fun t8 =>
    idv t26 fun t9 =>
    lnl t8 fun t28 =>
    lnl t9 fun t30 =>
    nei .i64 t28 t30 fun t31 =>
    gd t31 false (idv t8) fun t33 =>
    gd t31 false (lnl t33) fun t34 =>
    gd t31 false (gt .i64 t34 (.int .i64 0)) fun t35 =>
    gd t31 false (ldn 4 t3) fun t36 =>
    gd t31 false (cl (f11 t36)) fun t37 =>
    gd t31 false (cl (f14 t37)) fun t38 =>
    gd t31 false (neb t35 t38) fun t39 =>
    pk t31 (.bool true) t39 fun t40 =>
    cnd t40 (
      rt (.bool false)
      ) (
      jn (fun (j1 : Value → Value → Value → M) =>
        lo (fun _ _ _ _ _ _ => bot) (f4_b2 j1) (fun l => l t1 t2 t3 t8 t9 (.int .i64 0))
        ) (f4_j1)
      )
    )
theorem s4 (t0 t1 t2 : Value) (w : World) (Q : Value → World → Prop) (h : f4 t0 t1 t2 w Q) : Calls Try.prog 4 #[t0, t1, t2] w (Rt Q) := by
  refine calls_of (l := [t0, t1, t2]) Try.func4 rfl Try.ntmps4 (Nat.le_of_ble_eq_true rfl) ?_
  unfold f4 at h
  refine wp_seq ?_
  refine L_region ?_
  refine L_u (P_bx h) ?_
  intro v w h
  refine L_as ?_
  refine L_nil ?_
  refine E_n ?_
  refine wp_seq ?_
  refine wp_seq ?_
  refine L_region ?_
  refine L_u (N_cl Try.func7 rfl nn7 (fun w Q h => s7 w Q h) h) ?_
  intro v w h
  refine L_u (P_nt h) ?_
  intro v w h
  refine L_nil ?_
  refine E_n ?_
  refine C_cnd h (fun h => ?_) (fun h => ?_)
  · refine wp_seq ?_
    refine L_region ?_
    refine L_as ?_
    refine L_nil ?_
    refine E_n ?_
    refine C_ret ?_
    show bodyPost Try.prog Try.f4 (Rt Q) .ret _ _
    exact post_tmps (ts := [6]) (.inr rfl) rfl h
  · refine C_skip ?_
    refine E_n ?_
    refine wp_seq ?_
    refine L_region ?_
    refine L_mv ?_
    refine L_u (P_cv ai2 in34 h) ?_
    intro v w h
    refine L_mv ?_
    refine L_u (P_cv ai2 in34 h) ?_
    intro v w h
    refine L_u (P_ad h) ?_
    intro v w h
    refine L_u (P_cv ai34 in2 h) ?_
    intro v w h
    refine L_as ?_
    refine L_nil ?_
    refine E_n ?_
    refine wp_seq ?_
    refine D_region (by decide +kernel) 10 rfl ?_
    replace h := dr_e h
    refine G_r _ 0 rfl (by decide +kernel) (R_ldn ag23 h) ?_
    intro v h
    refine G_p 2 rfl (by decide +kernel) (Y_mv h) ?_
    intro v h
    refine G_r _ 4 rfl (by decide +kernel) (R_ldn ag23 h) ?_
    intro v h
    refine G_p 6 rfl (by decide +kernel) (Y_mv h) ?_
    intro v h
    refine G_e 1 rfl (by decide +kernel) (N_cl Try.func11 rfl nn11 (fun w Q h => s11 _ w Q h) h ?_)
    intro v w h
    refine ⟨keepF_cons (kp_1 h) (keepF_dep [0] (by decide +kernel) rfl keepF_nil), ?_⟩
    replace h := (kp_2 h)
    refine G_e 3 rfl (by decide +kernel) (N_cl Try.func10 rfl nn10 (fun w Q h => s10 _ _ w Q h) h ?_)
    intro v w h
    refine ⟨keepF_cons (kp_1 h) (keepF_dep [1, 0] (by decide +kernel) rfl keepF_nil), ?_⟩
    replace h := (kp_2 h)
    refine G_e 5 rfl (by decide +kernel) (N_cl Try.func11 rfl nn11 (fun w Q h => s11 _ w Q h) h ?_)
    intro v w h
    refine ⟨keepF_dep [4] (by decide +kernel) rfl (keepF_dep [3, 1, 0] (by decide +kernel) rfl keepF_nil), ?_⟩
    refine G_e 7 rfl (by decide +kernel) (N_cl Try.func10 rfl nn10 (fun w Q h => s10 _ _ w Q h) h ?_)
    intro v w h
    refine ⟨keepF_dep [5, 4] (by decide +kernel) rfl (keepF_dep [5, 3, 1, 0] (by decide +kernel) rfl keepF_nil), ?_⟩
    refine G_p 8 rfl (by decide +kernel) (Y_as h) ?_
    intro v h
    refine G_p 9 rfl (by decide +kernel) (Y_as h) ?_
    intro v h
    refine G_done (by decide +kernel) ?_
    refine E_n ?_
    refine wp_seq ?_
    refine wp_seq ?_
    refine L_region ?_
    refine L_mv ?_
    refine L_u (P_lnl is25 h) ?_
    intro v w h
    refine L_mv ?_
    refine L_u (P_lnl is25 h) ?_
    intro v w h
    refine L_u (P_nei h) ?_
    intro v w h
    refine L_mv ?_
    refine L_g (t := 32) h rfl rfl (fun c h => P_mv h c) ?_
    intro v w h
    refine L_g (t := 32) h rfl rfl (fun c h => P_lnl is25 h c) ?_
    intro v w h
    refine L_g (t := 32) h rfl rfl (fun c h => P_gt h c) ?_
    intro v w h
    refine L_g (t := 32) h rfl rfl (fun c h => P_ldn ag23 h c) ?_
    intro v w h
    refine L_g (t := 32) h rfl rfl (fun c h => N_cl Try.func11 rfl nn11 (fun w Q h => s11 _ w Q h) h c) ?_
    intro v w h
    refine L_g (t := 32) h rfl rfl (fun c h => N_cl Try.func14 rfl nn14 (fun w Q h => s14 _ w Q h) h c) ?_
    intro v w h
    refine L_g (t := 32) h rfl rfl (fun c h => P_neb bo4 h c) ?_
    intro v w h
    refine L_u (P_pk h) ?_
    intro v w h
    refine L_nil ?_
    refine E_n ?_
    refine C_cnd h (fun h => ?_) (fun h => ?_)
    · refine wp_seq ?_
      refine L_region ?_
      refine L_as ?_
      refine L_nil ?_
      refine E_n ?_
      refine C_ret ?_
      show bodyPost Try.prog Try.f4 (Rt Q) .ret _ _
      exact post_tmps (ts := [6]) (.inr rfl) rfl h
    · refine C_skip ?_
      refine E_n ?_
      refine wp_seq ?_
      refine wp_seq ?_
      refine L_region ?_
      refine L_as ?_
      refine L_nil ?_
      refine E_n ?_
      refine C_join (fun (k : Value → Value → Value → M) (ρ : Nat → Value) => k (ρ 1) (ρ 3) (ρ 8)) h (fun j1 J1 h => ?_) (fun ρ w h => ?_)
      · refine C_blk ?_
        refine C_lo (fun (l : Value → Value → Value → Value → Value → Value → M) (ρ : Nat → Value) => l (ρ 1) (ρ 2) (ρ 3) (ρ 8) (ρ 9) (ρ 10)) h (fun ρ w h => h) (fun nx self2 L2 ρ w h => ?_)
        unfold f4_b2 at h
        refine wp_seq ?_
        refine wp_seq ?_
        refine L_region ?_
        refine L_mv ?_
        refine L_mv ?_
        refine L_u (P_lnl is25 h) ?_
        intro v w h
        refine L_u (P_lt h) ?_
        intro v w h
        refine L_nil ?_
        refine E_n ?_
        refine C_cnd h (fun h => ?_) (fun h => ?_)
        · refine C_skip ?_
          refine E_n ?_
          refine wp_seq ?_
          refine C_blk ?_
          refine wp_seq ?_
          refine D_region (by decide +kernel) 14 rfl ?_
          replace h := dr_e h
          refine G_p 0 rfl (by decide +kernel) (Y_mv h) ?_
          intro v h
          refine G_p 1 rfl (by decide +kernel) (Y_mv h) ?_
          intro v h
          refine G_p 2 rfl (by decide +kernel) (Y_ia se25 h) ?_
          intro v h
          refine G_r _ 3 rfl (by decide +kernel) (R_ld sc2 h) ?_
          intro v h
          refine G_p 4 rfl (by decide +kernel) (Y_cv ai2 in34 h) ?_
          intro v h
          refine G_p 5 rfl (by decide +kernel) (Y_mv h) ?_
          intro v h
          refine G_p 6 rfl (by decide +kernel) (Y_mv h) ?_
          intro v h
          refine G_p 7 rfl (by decide +kernel) (Y_ia se25 h) ?_
          intro v h
          refine G_r _ 8 rfl (by decide +kernel) (R_ld sc2 h) ?_
          intro v h
          refine G_p 9 rfl (by decide +kernel) (Y_cv ai2 in34 h) ?_
          intro v h
          refine G_p 10 rfl (by decide +kernel) (Y_mv h) ?_
          intro v h
          refine G_p 11 rfl (by decide +kernel) (Y_cv ai2 in34 h) ?_
          intro v h
          refine G_p 12 rfl (by decide +kernel) (Y_ad h) ?_
          intro v h
          refine G_p 13 rfl (by decide +kernel) (Y_nei h) ?_
          intro v h
          refine G_done (by decide +kernel) ?_
          refine E_n ?_
          refine C_cnd h (fun h => ?_) (fun h => ?_)
          · refine wp_seq ?_
            refine L_region ?_
            refine L_as ?_
            refine L_nil ?_
            refine E_n ?_
            refine C_ret ?_
            show bodyPost Try.prog Try.f4 (Rt Q) .ret _ _
            exact post_tmps (ts := [6]) (.inr rfl) rfl h
          · refine C_skip ?_
            refine B_n ?_
            refine E_n ?_
            refine L_region ?_
            refine L_mv ?_
            refine L_u (P_ad h) ?_
            intro v w h
            refine L_as ?_
            refine L_nil ?_
            refine E_n ?_
            exact L2 _ _ h
        · refine C_exit ?_
          refine E_x ?_
          refine E_x ?_
          refine B_x ?_
          exact J1 _ _ h
      · unfold f4_j1 at h
        refine E_n ?_
        refine wp_seq ?_
        refine L_region ?_
        refine L_mv ?_
        refine L_u (P_lnl is25 h) ?_
        intro v w h
        refine L_u (P_eqi h) ?_
        intro v w h
        refine L_mv ?_
        refine L_g (t := 64) h rfl rfl (fun c h => P_mv h c) ?_
        intro v w h
        refine L_g (t := 64) h rfl rfl (fun c h => P_lnl is25 h c) ?_
        intro v w h
        refine L_g (t := 64) h rfl rfl (fun c h => P_fa fo23_3 h c) ?_
        intro v w h
        refine L_g (t := 64) h rfl rfl (fun c h => P_ld sc3 h c) ?_
        intro v w h
        refine L_g (t := 64) h rfl rfl (fun c h => P_eqi h c) ?_
        intro v w h
        refine L_g (t := 64) h rfl rfl (fun c h => P_mv h c) ?_
        intro v w h
        refine L_g (t := 70) h rfl rfl (fun c h => P_mv h c) ?_
        intro v w h
        refine L_g (t := 70) h rfl rfl (fun c h => P_ia se25 h c) ?_
        intro v w h
        refine L_g (t := 70) h rfl rfl (fun c h => P_ld sc2 h c) ?_
        intro v w h
        refine L_g (t := 70) h rfl rfl (fun c h => P_mv h c) ?_
        intro v w h
        refine L_g (t := 70) h rfl rfl (fun c h => P_eqi h c) ?_
        intro v w h
        refine L_g (t := 64) h rfl rfl (fun c h => P_pk h c) ?_
        intro v w h
        refine L_u (P_pk h) ?_
        intro v w h
        refine L_as ?_
        refine L_nil ?_
        refine E_n ?_
        refine C_ret ?_
        show bodyPost Try.prog Try.f4 (Rt Q) .ret _ _
        exact post_tmps (ts := [6]) (.inr rfl) rfl h

/- factotum/retry.Wait -/
def f15 (t0 t1 : Value) : M :=
  bx 29 t0 fun t2 =>
  ldn 4 t2 fun t7 =>
  cl (f20 t7) fun t8 =>
  lt .i64 t1 (.int .i64 1) fun t10 =>
  gd t10 false (idv t1) fun t12 =>
  gd t10 false (idv t8) fun t13 =>
  gd t10 false (lnl t13) fun t14 =>
  gd t10 false (gt .i64 t12 t14) fun t15 =>
  pk t10 (.bool true) t15 fun t16 =>
  cnd t16 (
    rt (.tuple #[(.int .i64 0), (.bool false)])
    ) (
    su .i64 t1 (.int .i64 1) fun t19 =>
    ia 1 t8 t19 fun t20 =>
    ld t20 fun t21 =>
    rt (.tuple #[t21, (.bool true)])
    )
theorem s15 (t0 t1 : Value) (w : World) (Q : Value → World → Prop) (h : f15 t0 t1 w Q) : Calls Try.prog 15 #[t0, t1] w (Rt Q) := by
  refine calls_of (l := [t0, t1]) Try.func15 rfl Try.ntmps15 (Nat.le_of_ble_eq_true rfl) ?_
  unfold f15 at h
  refine wp_seq ?_
  refine L_region ?_
  refine L_u (P_bx h) ?_
  intro v w h
  refine L_as ?_
  refine L_as ?_
  refine L_nil ?_
  refine E_n ?_
  refine wp_seq ?_
  refine L_region ?_
  refine L_u (P_ldn ag29 h) ?_
  intro v w h
  refine L_u (N_cl Try.func20 rfl nn20 (fun w Q h => s20 _ w Q h) h) ?_
  intro v w h
  refine L_as ?_
  refine L_nil ?_
  refine E_n ?_
  refine wp_seq ?_
  refine wp_seq ?_
  refine L_region ?_
  refine L_mv ?_
  refine L_u (P_lt h) ?_
  intro v w h
  refine L_mv ?_
  refine L_g (t := 11) h rfl rfl (fun c h => P_mv h c) ?_
  intro v w h
  refine L_g (t := 11) h rfl rfl (fun c h => P_mv h c) ?_
  intro v w h
  refine L_g (t := 11) h rfl rfl (fun c h => P_lnl is25 h c) ?_
  intro v w h
  refine L_g (t := 11) h rfl rfl (fun c h => P_gt h c) ?_
  intro v w h
  refine L_u (P_pk h) ?_
  intro v w h
  refine L_nil ?_
  refine E_n ?_
  refine C_cnd h (fun h => ?_) (fun h => ?_)
  · refine wp_seq ?_
    refine L_region ?_
    refine L_as ?_
    refine L_as ?_
    refine L_nil ?_
    refine E_n ?_
    refine C_ret ?_
    show bodyPost Try.prog Try.f15 (Rt Q) .ret _ _
    exact post_tmps (ts := [4, 5]) (.inr rfl) rfl h
  · refine C_skip ?_
    refine E_n ?_
    refine wp_seq ?_
    refine L_region ?_
    refine L_mv ?_
    refine L_mv ?_
    refine L_u (P_su h) ?_
    intro v w h
    refine L_u (P_ia se25 h) ?_
    intro v w h
    refine L_u (P_ld sc2 h) ?_
    intro v w h
    refine L_as ?_
    refine L_as ?_
    refine L_nil ?_
    refine E_n ?_
    refine C_ret ?_
    show bodyPost Try.prog Try.f15 (Rt Q) .ret _ _
    exact post_tmps (ts := [4, 5]) (.inr rfl) rfl h

/- factotum/retry.weigh -/
def f21_b2 (j1 : Value → M) (self2 : Value → Value → Value → Value → M) (t3 t7_1 t8_1 t9 : Value) : M :=
  lt .i64 t9 t8_1 fun t10 =>
  cnd t10 (
    ia 1 t7_1 t9 fun t12 =>
    ld t12 fun t13 =>
    ad .i64 t9 (.int .i64 1) fun t16 =>
    cv .u64 t16 fun t17 =>
    cv .u64 t13 fun t19 =>
    mu .u64 t17 t19 fun t20 =>
    ad .u64 t3 t20 fun t21 =>
    ad .i64 t9 (.int .i64 1) fun t22 =>
    self2 t21 t7_1 t8_1 t22
    ) (
    j1 t3
    )
def f21_j1 (t3_1 : Value) : M :=
  rt t3_1
def f21 (t0 : Value) : M :=
  sm Try.prog (convert 9 46 t0) fun t7 =>
  lnl t7 fun t8 =>
  jn (fun (j1 : Value → M) =>
    lo (fun _ _ _ _ => bot) (f21_b2 j1) (fun l => l (.int .u64 0) t7 t8 (.int .i64 0))
    ) (f21_j1)
theorem s21 (t0 : Value) (w : World) (Q : Value → World → Prop) (h : f21 t0 w Q) : Calls Try.prog 21 #[t0] w (Rt Q) := by
  refine calls_of (l := [t0]) Try.func21 rfl Try.ntmps21 (Nat.le_of_ble_eq_true rfl) ?_
  unfold f21 at h
  refine wp_seq ?_
  refine L_region ?_
  refine L_as ?_
  refine L_nil ?_
  refine E_n ?_
  refine wp_seq ?_
  refine L_region ?_
  refine L_as ?_
  refine L_nil ?_
  refine E_n ?_
  refine wp_seq ?_
  refine wp_seq ?_
  refine L_region ?_
  refine L_mv ?_
  refine L_u (P_sm rfl h) ?_
  intro v w h
  refine L_u (P_lnl is46 h) ?_
  intro v w h
  refine L_mv ?_
  refine L_nil ?_
  refine E_n ?_
  refine C_join (fun (k : Value → M) (ρ : Nat → Value) => k (ρ 3)) h (fun j1 J1 h => ?_) (fun ρ w h => ?_)
  · refine C_blk ?_
    refine C_lo (fun (l : Value → Value → Value → Value → M) (ρ : Nat → Value) => l (ρ 3) (ρ 7) (ρ 8) (ρ 9)) h (fun ρ w h => h) (fun nx self2 L2 ρ w h => ?_)
    unfold f21_b2 at h
    refine wp_seq ?_
    refine L_region ?_
    refine L_u (P_lt h) ?_
    intro v w h
    refine L_nil ?_
    refine E_n ?_
    refine wp_seq ?_
    refine C_cnd h (fun h => ?_) (fun h => ?_)
    · refine C_skip ?_
      refine E_n ?_
      refine wp_seq ?_
      refine C_blk ?_
      refine wp_seq ?_
      refine L_region ?_
      refine L_mv ?_
      refine L_u (P_ia se46 h) ?_
      intro v w h
      refine L_u (P_ld sc5 h) ?_
      intro v w h
      refine L_as ?_
      refine L_as ?_
      refine L_nil ?_
      refine E_n ?_
      refine L_region ?_
      refine L_mv ?_
      refine L_mv ?_
      refine L_u (P_ad h) ?_
      intro v w h
      refine L_u (P_cv ai3 in34 h) ?_
      intro v w h
      refine L_mv ?_
      refine L_u (P_cv ai5 in34 h) ?_
      intro v w h
      refine L_u (P_mu h) ?_
      intro v w h
      refine L_u (P_ad h) ?_
      intro v w h
      refine L_as ?_
      refine L_nil ?_
      refine B_n ?_
      refine E_n ?_
      refine L_region ?_
      refine L_u (P_ad h) ?_
      intro v w h
      refine L_mv ?_
      refine L_nil ?_
      refine E_n ?_
      exact L2 _ _ h
    · refine C_exit ?_
      refine E_x ?_
      refine E_x ?_
      refine B_x ?_
      exact J1 _ _ h
  · unfold f21_j1 at h
    refine E_n ?_
    refine wp_seq ?_
    refine L_region ?_
    refine L_mv ?_
    refine L_as ?_
    refine L_nil ?_
    refine E_n ?_
    refine C_ret ?_
    show bodyPost Try.prog Try.f21 (Rt Q) .ret _ _
    exact post_tmps (ts := [2]) (.inr rfl) rfl h

/- factotum/retry.Spread -/
def f17 (t0 t1 t2 : Value) : M :=
  bx 29 t0 fun t3 =>
  ldn 4 t3 fun t12 =>
  cl (f15 t12 t1) fun t14 =>
  ex 0 t14 fun t15 =>
  ex 1 t14 fun t16 =>
  nt t16 fun t18 =>
  cnd t18 (
    rt (.tuple #[(.int .i64 0), (.bool false)])
    ) (
    qu .i64 t15 (.int .i64 2) fun t21 =>
    su .i64 t15 t21 fun t22 =>
    cv .u64 t22 fun t23 =>
    qu .i64 t15 (.int .i64 2) fun t25 =>
    cl (f21 t2) fun t27 =>
    ad .u64 t23 (.int .u64 1) fun t29 =>
    re .u64 t27 t29 fun t30 =>
    cv .i64 t30 fun t31 =>
    ad .i64 t25 t31 fun t32 =>
    rt (.tuple #[t32, (.bool true)])
    )
theorem s17 (t0 t1 t2 : Value) (w : World) (Q : Value → World → Prop) (h : f17 t0 t1 t2 w Q) : Calls Try.prog 17 #[t0, t1, t2] w (Rt Q) := by
  refine calls_of (l := [t0, t1, t2]) Try.func17 rfl Try.ntmps17 (Nat.le_of_ble_eq_true rfl) ?_
  unfold f17 at h
  refine wp_seq ?_
  refine L_region ?_
  refine L_u (P_bx h) ?_
  intro v w h
  refine L_as ?_
  refine L_as ?_
  refine L_nil ?_
  refine E_n ?_
  refine wp_seq ?_
  refine L_region ?_
  refine L_u (P_ldn ag29 h) ?_
  intro v w h
  refine L_mv ?_
  refine L_u (N_cl Try.func15 rfl nn15 (fun w Q h => s15 _ _ w Q h) h) ?_
  intro v w h
  refine L_mv ?_
  refine L_u (P_ex h) ?_
  intro v w h
  refine L_u (P_ex h) ?_
  intro v w h
  refine L_as ?_
  refine L_as ?_
  refine L_nil ?_
  refine E_n ?_
  refine wp_seq ?_
  refine wp_seq ?_
  refine L_region ?_
  refine L_mv ?_
  refine L_u (P_nt h) ?_
  intro v w h
  refine L_nil ?_
  refine E_n ?_
  refine C_cnd h (fun h => ?_) (fun h => ?_)
  · refine wp_seq ?_
    refine L_region ?_
    refine L_as ?_
    refine L_as ?_
    refine L_nil ?_
    refine E_n ?_
    refine C_ret ?_
    show bodyPost Try.prog Try.f17 (Rt Q) .ret _ _
    exact post_tmps (ts := [6, 7]) (.inr rfl) rfl h
  · refine C_skip ?_
    refine E_n ?_
    refine wp_seq ?_
    refine L_region ?_
    refine L_mv ?_
    refine L_mv ?_
    refine L_u (P_qu h) ?_
    intro v w h
    refine L_u (P_su h) ?_
    intro v w h
    refine L_u (P_cv ai2 in34 h) ?_
    intro v w h
    refine L_as ?_
    refine L_nil ?_
    refine E_n ?_
    refine wp_seq ?_
    refine L_region ?_
    refine L_mv ?_
    refine L_u (P_qu h) ?_
    intro v w h
    refine L_mv ?_
    refine L_u (N_cl Try.func21 rfl nn21 (fun w Q h => s21 _ w Q h) h) ?_
    intro v w h
    refine L_mv ?_
    refine L_u (P_ad h) ?_
    intro v w h
    refine L_u (P_re h) ?_
    intro v w h
    refine L_u (P_cv ai34 in2 h) ?_
    intro v w h
    refine L_u (P_ad h) ?_
    intro v w h
    refine L_as ?_
    refine L_as ?_
    refine L_nil ?_
    refine E_n ?_
    refine C_ret ?_
    show bodyPost Try.prog Try.f17 (Rt Q) .ret _ _
    exact post_tmps (ts := [6, 7]) (.inr rfl) rfl h

/- factotum/factotumref33.Spread -/
def f18_b2 (j1 : Value → Value → M) (self2 : Value → Value → Value → Value → M) (t2_1 t8 t10 t11 : Value) : M :=
  lns t2_1 fun t23 =>
  lt .i64 t11 t23 fun t24 =>
  cnd t24 (
    ad .i64 t11 (.int .i64 1) fun t29 =>
    cv .u64 t29 fun t30 =>
    ixs t2_1 t11 fun t33 =>
    cv .u64 t33 fun t34 =>
    mu .u64 t30 t34 fun t35 =>
    ad .u64 t10 t35 fun t36 =>
    ad .i64 t11 (.int .i64 1) fun t26 =>
    self2 t2_1 t8 t36 t26
    ) (
    j1 t8 t10
    )
def f18_j1 (t8_1 t10_1 : Value) : M :=
  qu .i64 t8_1 (.int .i64 2) fun t38 =>
  su .i64 t8_1 t38 fun t43 =>
  ad .i64 t43 (.int .i64 1) fun t44 =>
  cv .u64 t44 fun t45 =>
  re .u64 t10_1 t45 fun t46 =>
  cv .i64 t46 fun t47 =>
  ad .i64 t38 t47 fun t48 =>
  rt (.tuple #[t48, (.bool true)])
def f18 (t0 t1 t2 : Value) : M :=
  bx 23 t0 fun t3 =>
  ldn 4 t3 fun t14 =>
  cl (f16 t14 t1) fun t16 =>
  ex 0 t16 fun t17 =>
  ex 1 t16 fun t18 =>
  nt t18 fun t20 =>
  cnd t20 (
    rt (.tuple #[(.int .i64 0), (.bool false)])
    ) (
    jn (fun (j1 : Value → Value → M) =>
      lo (fun _ _ _ _ => bot) (f18_b2 j1) (fun l => l t2 t17 (.int .u64 0) (.int .i64 0))
      ) (f18_j1)
    )
theorem s18 (t0 t1 t2 : Value) (w : World) (Q : Value → World → Prop) (h : f18 t0 t1 t2 w Q) : Calls Try.prog 18 #[t0, t1, t2] w (Rt Q) := by
  refine calls_of (l := [t0, t1, t2]) Try.func18 rfl Try.ntmps18 (Nat.le_of_ble_eq_true rfl) ?_
  unfold f18 at h
  refine wp_seq ?_
  refine L_region ?_
  refine L_u (P_bx h) ?_
  intro v w h
  refine L_as ?_
  refine L_as ?_
  refine L_nil ?_
  refine E_n ?_
  refine wp_seq ?_
  refine L_region ?_
  refine L_u (P_ldn ag23 h) ?_
  intro v w h
  refine L_mv ?_
  refine L_u (N_cl Try.func16 rfl nn16 (fun w Q h => s16 _ _ w Q h) h) ?_
  intro v w h
  refine L_mv ?_
  refine L_u (P_ex h) ?_
  intro v w h
  refine L_u (P_ex h) ?_
  intro v w h
  refine L_as ?_
  refine L_as ?_
  refine L_nil ?_
  refine E_n ?_
  refine wp_seq ?_
  refine wp_seq ?_
  refine L_region ?_
  refine L_mv ?_
  refine L_u (P_nt h) ?_
  intro v w h
  refine L_nil ?_
  refine E_n ?_
  refine C_cnd h (fun h => ?_) (fun h => ?_)
  · refine wp_seq ?_
    refine L_region ?_
    refine L_as ?_
    refine L_as ?_
    refine L_nil ?_
    refine E_n ?_
    refine C_ret ?_
    show bodyPost Try.prog Try.f18 (Rt Q) .ret _ _
    exact post_tmps (ts := [6, 7]) (.inr rfl) rfl h
  · refine C_skip ?_
    refine E_n ?_
    refine wp_seq ?_
    refine L_region ?_
    refine L_as ?_
    refine L_nil ?_
    refine E_n ?_
    refine wp_seq ?_
    refine wp_seq ?_
    refine L_region ?_
    refine L_as ?_
    refine L_nil ?_
    refine E_n ?_
    refine C_join (fun (k : Value → Value → M) (ρ : Nat → Value) => k (ρ 8) (ρ 10)) h (fun j1 J1 h => ?_) (fun ρ w h => ?_)
    · refine C_blk ?_
      refine C_lo (fun (l : Value → Value → Value → Value → M) (ρ : Nat → Value) => l (ρ 2) (ρ 8) (ρ 10) (ρ 11)) h (fun ρ w h => h) (fun nx self2 L2 ρ w h => ?_)
      unfold f18_b2 at h
      refine wp_seq ?_
      refine wp_seq ?_
      refine L_region ?_
      refine L_mv ?_
      refine L_mv ?_
      refine L_u (P_lns st9 h) ?_
      intro v w h
      refine L_u (P_lt h) ?_
      intro v w h
      refine L_nil ?_
      refine E_n ?_
      refine C_cnd h (fun h => ?_) (fun h => ?_)
      · refine C_skip ?_
        refine E_n ?_
        refine wp_seq ?_
        refine C_blk ?_
        refine L_region ?_
        refine L_mv ?_
        refine L_mv ?_
        refine L_u (P_ad h) ?_
        intro v w h
        refine L_u (P_cv ai3 in34 h) ?_
        intro v w h
        refine L_mv ?_
        refine L_mv ?_
        refine L_u (P_ixs st9 h) ?_
        intro v w h
        refine L_u (P_cv ai5 in34 h) ?_
        intro v w h
        refine L_u (P_mu h) ?_
        intro v w h
        refine L_u (P_ad h) ?_
        intro v w h
        refine L_as ?_
        refine L_nil ?_
        refine B_n ?_
        refine E_n ?_
        refine L_region ?_
        refine L_mv ?_
        refine L_u (P_ad h) ?_
        intro v w h
        refine L_as ?_
        refine L_nil ?_
        refine E_n ?_
        exact L2 _ _ h
      · refine C_exit ?_
        refine E_x ?_
        refine E_x ?_
        refine B_x ?_
        exact J1 _ _ h
    · unfold f18_j1 at h
      refine E_n ?_
      refine wp_seq ?_
      refine L_region ?_
      refine L_mv ?_
      refine L_u (P_qu h) ?_
      intro v w h
      refine L_as ?_
      refine L_nil ?_
      refine E_n ?_
      refine wp_seq ?_
      refine L_region ?_
      refine L_mv ?_
      refine L_mv ?_
      refine L_mv ?_
      refine L_mv ?_
      refine L_u (P_su h) ?_
      intro v w h
      refine L_u (P_ad h) ?_
      intro v w h
      refine L_u (P_cv ai2 in34 h) ?_
      intro v w h
      refine L_u (P_re h) ?_
      intro v w h
      refine L_u (P_cv ai34 in2 h) ?_
      intro v w h
      refine L_u (P_ad h) ?_
      intro v w h
      refine L_as ?_
      refine L_as ?_
      refine L_nil ?_
      refine E_n ?_
      refine C_ret ?_
      show bodyPost Try.prog Try.f18 (Rt Q) .ret _ _
      exact post_tmps (ts := [6, 7]) (.inr rfl) rfl h

/- factotum/factotumlaw33.RetryWaits -/
def f5 (t0 t1 t2 : Value) : M :=
  bx 23 t0 fun t3 =>
  cl (f7) fun t15 =>
  nt t15 fun t16 =>
  cnd t16 (
    rt (.bool false)
    ) (
    ldn 4 t3 fun t18 =>
    cl (f11 t18) fun t19 =>
    cl (f15 t19 t1) fun t21 =>
    ex 0 t21 fun t22 =>
    ex 1 t21 fun t23 =>
    ldn 4 t3 fun t25 =>
    cl (f16 t25 t1) fun t27 =>
    ex 0 t27 fun t28 =>
    ex 1 t27 fun t29 =>
    ldn 4 t3 fun t31 =>
    cl (f11 t31) fun t32 =>
    cl (f17 t32 t1 t2) fun t35 =>
    ex 0 t35 fun t36 =>
    ex 1 t35 fun t37 =>
    ldn 4 t3 fun t39 =>
    cl (f18 t39 t1 t2) fun t42 =>
    ex 0 t42 fun t43 =>
    ex 1 t42 fun t44 =>
    dr <|
    ldn 4 t3 fun t45 =>
    ldn 4 t3 fun t48 =>
    cl (f11 t45) fun t46 =>
    kp (Kldn 4 t3 t48) <|
    cl (f14 t46) fun t47 =>
    kp (Kldn 4 t3 t48) <|
    cl (f19 t48) fun t49 =>
    eqb t47 t49 fun t50 =>
    idv t50 fun t51 =>
    gd t51 true (idv t22) fun t52 =>
    gd t51 true (idv t28) fun t53 =>
    gd t51 true (eqi .i64 t52 t53) fun t54 =>
    pk t51 t54 (.bool false) fun t55 =>
    idv t55 fun t56 =>
    gd t56 true (idv t23) fun t57 =>
    gd t56 true (idv t29) fun t58 =>
    gd t56 true (eqb t57 t58) fun t59 =>
    pk t56 t59 (.bool false) fun t60 =>
    idv t60 fun t61 =>
    gd t61 true (idv t36) fun t62 =>
    gd t61 true (idv t43) fun t63 =>
    gd t61 true (eqi .i64 t62 t63) fun t64 =>
    pk t61 t64 (.bool false) fun t65 =>
    idv t65 fun t66 =>
    gd t66 true (idv t37) fun t67 =>
    gd t66 true (idv t44) fun t68 =>
    gd t66 true (eqb t67 t68) fun t69 =>
    pk t66 t69 (.bool false) fun t70 =>
    idv t70 fun t6 =>
    rt t6
    )
theorem s5 (t0 t1 t2 : Value) (w : World) (Q : Value → World → Prop) (h : f5 t0 t1 t2 w Q) : Calls Try.prog 5 #[t0, t1, t2] w (Rt Q) := by
  refine calls_of (l := [t0, t1, t2]) Try.func5 rfl Try.ntmps5 (Nat.le_of_ble_eq_true rfl) ?_
  unfold f5 at h
  refine wp_seq ?_
  refine L_region ?_
  refine L_u (P_bx h) ?_
  intro v w h
  refine L_as ?_
  refine L_nil ?_
  refine E_n ?_
  refine wp_seq ?_
  refine wp_seq ?_
  refine L_region ?_
  refine L_u (N_cl Try.func7 rfl nn7 (fun w Q h => s7 w Q h) h) ?_
  intro v w h
  refine L_u (P_nt h) ?_
  intro v w h
  refine L_nil ?_
  refine E_n ?_
  refine C_cnd h (fun h => ?_) (fun h => ?_)
  · refine wp_seq ?_
    refine L_region ?_
    refine L_as ?_
    refine L_nil ?_
    refine E_n ?_
    refine C_ret ?_
    show bodyPost Try.prog Try.f5 (Rt Q) .ret _ _
    exact post_tmps (ts := [6]) (.inr rfl) rfl h
  · refine C_skip ?_
    refine E_n ?_
    refine wp_seq ?_
    refine L_region ?_
    refine L_u (P_ldn ag23 h) ?_
    intro v w h
    refine L_u (N_cl Try.func11 rfl nn11 (fun w Q h => s11 _ w Q h) h) ?_
    intro v w h
    refine L_mv ?_
    refine L_u (N_cl Try.func15 rfl nn15 (fun w Q h => s15 _ _ w Q h) h) ?_
    intro v w h
    refine L_mv ?_
    refine L_u (P_ex h) ?_
    intro v w h
    refine L_u (P_ex h) ?_
    intro v w h
    refine L_as ?_
    refine L_as ?_
    refine L_nil ?_
    refine E_n ?_
    refine wp_seq ?_
    refine L_region ?_
    refine L_u (P_ldn ag23 h) ?_
    intro v w h
    refine L_mv ?_
    refine L_u (N_cl Try.func16 rfl nn16 (fun w Q h => s16 _ _ w Q h) h) ?_
    intro v w h
    refine L_mv ?_
    refine L_u (P_ex h) ?_
    intro v w h
    refine L_u (P_ex h) ?_
    intro v w h
    refine L_as ?_
    refine L_as ?_
    refine L_nil ?_
    refine E_n ?_
    refine wp_seq ?_
    refine L_region ?_
    refine L_u (P_ldn ag23 h) ?_
    intro v w h
    refine L_u (N_cl Try.func11 rfl nn11 (fun w Q h => s11 _ w Q h) h) ?_
    intro v w h
    refine L_mv ?_
    refine L_mv ?_
    refine L_u (N_cl Try.func17 rfl nn17 (fun w Q h => s17 _ _ _ w Q h) h) ?_
    intro v w h
    refine L_mv ?_
    refine L_u (P_ex h) ?_
    intro v w h
    refine L_u (P_ex h) ?_
    intro v w h
    refine L_as ?_
    refine L_as ?_
    refine L_nil ?_
    refine E_n ?_
    refine wp_seq ?_
    refine L_region ?_
    refine L_u (P_ldn ag23 h) ?_
    intro v w h
    refine L_mv ?_
    refine L_mv ?_
    refine L_u (N_cl Try.func18 rfl nn18 (fun w Q h => s18 _ _ _ w Q h) h) ?_
    intro v w h
    refine L_mv ?_
    refine L_u (P_ex h) ?_
    intro v w h
    refine L_u (P_ex h) ?_
    intro v w h
    refine L_as ?_
    refine L_as ?_
    refine L_nil ?_
    refine E_n ?_
    refine wp_seq ?_
    refine D_region (by decide +kernel) 27 rfl ?_
    replace h := dr_e h
    refine G_r _ 0 rfl (by decide +kernel) (R_ldn ag23 h) ?_
    intro v h
    refine G_r _ 3 rfl (by decide +kernel) (R_ldn ag23 h) ?_
    intro v h
    refine G_e 1 rfl (by decide +kernel) (N_cl Try.func11 rfl nn11 (fun w Q h => s11 _ w Q h) h ?_)
    intro v w h
    refine ⟨keepF_cons (kp_1 h) (keepF_dep [0] (by decide +kernel) rfl keepF_nil), ?_⟩
    replace h := (kp_2 h)
    refine G_e 2 rfl (by decide +kernel) (N_cl Try.func14 rfl nn14 (fun w Q h => s14 _ w Q h) h ?_)
    intro v w h
    refine ⟨keepF_cons (kp_1 h) (keepF_dep [1, 0] (by decide +kernel) rfl keepF_nil), ?_⟩
    replace h := (kp_2 h)
    refine G_e 4 rfl (by decide +kernel) (N_cl Try.func19 rfl nn19 (fun w Q h => s19 _ w Q h) h ?_)
    intro v w h
    refine ⟨keepF_dep [3] (by decide +kernel) rfl (keepF_dep [2, 1, 0] (by decide +kernel) rfl keepF_nil), ?_⟩
    refine G_p 5 rfl (by decide +kernel) (Y_eqb bo4 h) ?_
    intro v h
    refine G_p 6 rfl (by decide +kernel) (Y_mv h) ?_
    intro v h
    refine G_pg (t := 51) 7 rfl (by decide +kernel) h rfl rfl (fun h => Y_mv h) ?_
    intro v h
    refine G_pg (t := 51) 8 rfl (by decide +kernel) h rfl rfl (fun h => Y_mv h) ?_
    intro v h
    refine G_pg (t := 51) 9 rfl (by decide +kernel) h rfl rfl (fun h => Y_eqi h) ?_
    intro v h
    refine G_p 10 rfl (by decide +kernel) (Y_pk h) ?_
    intro v h
    refine G_p 11 rfl (by decide +kernel) (Y_mv h) ?_
    intro v h
    refine G_pg (t := 56) 12 rfl (by decide +kernel) h rfl rfl (fun h => Y_mv h) ?_
    intro v h
    refine G_pg (t := 56) 13 rfl (by decide +kernel) h rfl rfl (fun h => Y_mv h) ?_
    intro v h
    refine G_pg (t := 56) 14 rfl (by decide +kernel) h rfl rfl (fun h => Y_eqb bo4 h) ?_
    intro v h
    refine G_p 15 rfl (by decide +kernel) (Y_pk h) ?_
    intro v h
    refine G_p 16 rfl (by decide +kernel) (Y_mv h) ?_
    intro v h
    refine G_pg (t := 61) 17 rfl (by decide +kernel) h rfl rfl (fun h => Y_mv h) ?_
    intro v h
    refine G_pg (t := 61) 18 rfl (by decide +kernel) h rfl rfl (fun h => Y_mv h) ?_
    intro v h
    refine G_pg (t := 61) 19 rfl (by decide +kernel) h rfl rfl (fun h => Y_eqi h) ?_
    intro v h
    refine G_p 20 rfl (by decide +kernel) (Y_pk h) ?_
    intro v h
    refine G_p 21 rfl (by decide +kernel) (Y_mv h) ?_
    intro v h
    refine G_pg (t := 66) 22 rfl (by decide +kernel) h rfl rfl (fun h => Y_mv h) ?_
    intro v h
    refine G_pg (t := 66) 23 rfl (by decide +kernel) h rfl rfl (fun h => Y_mv h) ?_
    intro v h
    refine G_pg (t := 66) 24 rfl (by decide +kernel) h rfl rfl (fun h => Y_eqb bo4 h) ?_
    intro v h
    refine G_p 25 rfl (by decide +kernel) (Y_pk h) ?_
    intro v h
    refine G_p 26 rfl (by decide +kernel) (Y_as h) ?_
    intro v h
    refine G_done (by decide +kernel) ?_
    refine E_n ?_
    refine C_ret ?_
    show bodyPost Try.prog Try.f5 (Rt Q) .ret _ _
    exact post_tmps (ts := [6]) (.inr rfl) rfl h

/- factotum/factotumlaw33.RetryRises -/
def f6_b2 (j1 : M) (self2 : Value → Value → Value → Value → M) (t1_1 t2_1 t5 t6 : Value) : M :=
  le .i64 t6 (.int .i64 64) fun t14 =>
  cnd t14 (
    ldn 4 t2_1 fun t18 =>
    cl (f11 t18) fun t19 =>
    cl (f15 t19 t6) fun t21 =>
    ex 0 t21 fun t22 =>
    ex 1 t21 fun t23 =>
    ldn 4 t2_1 fun t25 =>
    cl (f11 t25) fun t26 =>
    cl (f14 t26) fun t27 =>
    gd t27 true (idv t6) fun t29 =>
    gd t27 true (fa 3 t2_1) fun t30 =>
    gd t27 true (ld t30) fun t31 =>
    gd t27 true (le .i64 t29 t31) fun t32 =>
    pk t27 t32 (.bool false) fun t33 =>
    neb t23 t33 fun t34 =>
    cnd t34 (
      rt (.bool false)
      ) (
      nt t23 fun t36 =>
      cnd t36 (
        eqi .i64 t22 (.int .i64 0) fun t38 =>
        rt t38
        ) (
        ldn 4 t2_1 fun t40 =>
        cl (f11 t40) fun t41 =>
        cl (f17 t41 t6 t1_1) fun t44 =>
        ex 0 t44 fun t45 =>
        ex 1 t44 fun t46 =>
        lt .i64 t22 t5 fun t49 =>
        gd t49 false (idv t22) fun t51 =>
        gd t49 false (fa 1 t2_1) fun t52 =>
        gd t49 false (ld t52) fun t53 =>
        gd t49 false (gt .i64 t51 t53) fun t54 =>
        pk t49 (.bool true) t54 fun t55 =>
        gd t55 false (idv t6) fun t57 =>
        gd t55 false (gt .i64 t57 (.int .i64 1)) fun t58 =>
        gd t55 false (idv t58) fun t59 =>
        gd t59 true (idv t22) fun t60 =>
        gd t59 true (fa 0 t2_1) fun t61 =>
        gd t59 true (ld t61) fun t62 =>
        gd t59 true (lt .i64 t60 t62) fun t63 =>
        gd t55 false (pk t59 t63 (.bool false)) fun t64 =>
        pk t55 (.bool true) t64 fun t65 =>
        gd t65 false (idv t46) fun t67 =>
        gd t65 false (nt t67) fun t68 =>
        pk t65 (.bool true) t68 fun t69 =>
        gd t69 false (idv t45) fun t71 =>
        gd t69 false (idv t22) fun t72 =>
        gd t69 false (gt .i64 t71 t72) fun t73 =>
        pk t69 (.bool true) t73 fun t74 =>
        gd t74 false (idv t45) fun t76 =>
        gd t74 false (idv t22) fun t77 =>
        gd t74 false (qu .i64 t77 (.int .i64 2)) fun t78 =>
        gd t74 false (lt .i64 t76 t78) fun t79 =>
        pk t74 (.bool true) t79 fun t80 =>
        cnd t80 (
          rt (.bool false)
          ) (
          ad .i64 t6 (.int .i64 1) fun t16 =>
          self2 t1_1 t2_1 t22 t16
          )
        )
      )
    ) (
    j1
    )
def f6_j1 : M :=
  rt (.bool true)
def f6 (t0 t1 : Value) : M :=
  bx 23 t0 fun t2 =>
  cl (f7) fun t11 =>
  nt t11 fun t12 =>
  cnd t12 (
    rt (.bool false)
    ) (
    jn (fun (j1 : M) =>
      lo (fun _ _ _ _ => bot) (f6_b2 j1) (fun l => l t1 t2 (.int .i64 0) (.int .i64 1))
      ) (f6_j1)
    )
theorem s6 (t0 t1 : Value) (w : World) (Q : Value → World → Prop) (h : f6 t0 t1 w Q) : Calls Try.prog 6 #[t0, t1] w (Rt Q) := by
  refine calls_of (l := [t0, t1]) Try.func6 rfl Try.ntmps6 (Nat.le_of_ble_eq_true rfl) ?_
  unfold f6 at h
  refine wp_seq ?_
  refine L_region ?_
  refine L_u (P_bx h) ?_
  intro v w h
  refine L_as ?_
  refine L_nil ?_
  refine E_n ?_
  refine wp_seq ?_
  refine wp_seq ?_
  refine L_region ?_
  refine L_u (N_cl Try.func7 rfl nn7 (fun w Q h => s7 w Q h) h) ?_
  intro v w h
  refine L_u (P_nt h) ?_
  intro v w h
  refine L_nil ?_
  refine E_n ?_
  refine C_cnd h (fun h => ?_) (fun h => ?_)
  · refine wp_seq ?_
    refine L_region ?_
    refine L_as ?_
    refine L_nil ?_
    refine E_n ?_
    refine C_ret ?_
    show bodyPost Try.prog Try.f6 (Rt Q) .ret _ _
    exact post_tmps (ts := [4]) (.inr rfl) rfl h
  · refine C_skip ?_
    refine E_n ?_
    refine wp_seq ?_
    refine L_region ?_
    refine L_as ?_
    refine L_nil ?_
    refine E_n ?_
    refine wp_seq ?_
    refine wp_seq ?_
    refine L_region ?_
    refine L_as ?_
    refine L_nil ?_
    refine E_n ?_
    refine C_join (fun (k : M) (ρ : Nat → Value) => k) h (fun j1 J1 h => ?_) (fun ρ w h => ?_)
    · refine C_blk ?_
      refine C_lo (fun (l : Value → Value → Value → Value → M) (ρ : Nat → Value) => l (ρ 1) (ρ 2) (ρ 5) (ρ 6)) h (fun ρ w h => h) (fun nx self2 L2 ρ w h => ?_)
      unfold f6_b2 at h
      refine wp_seq ?_
      refine wp_seq ?_
      refine L_region ?_
      refine L_mv ?_
      refine L_u (P_le h) ?_
      intro v w h
      refine L_nil ?_
      refine E_n ?_
      refine C_cnd h (fun h => ?_) (fun h => ?_)
      · refine C_skip ?_
        refine E_n ?_
        refine wp_seq ?_
        refine C_blk ?_
        refine wp_seq ?_
        refine L_region ?_
        refine L_u (P_ldn ag23 h) ?_
        intro v w h
        refine L_u (N_cl Try.func11 rfl nn11 (fun w Q h => s11 _ w Q h) h) ?_
        intro v w h
        refine L_mv ?_
        refine L_u (N_cl Try.func15 rfl nn15 (fun w Q h => s15 _ _ w Q h) h) ?_
        intro v w h
        refine L_mv ?_
        refine L_u (P_ex h) ?_
        intro v w h
        refine L_u (P_ex h) ?_
        intro v w h
        refine L_as ?_
        refine L_as ?_
        refine L_nil ?_
        refine E_n ?_
        refine wp_seq ?_
        refine wp_seq ?_
        refine L_region ?_
        refine L_mv ?_
        refine L_u (P_ldn ag23 h) ?_
        intro v w h
        refine L_u (N_cl Try.func11 rfl nn11 (fun w Q h => s11 _ w Q h) h) ?_
        intro v w h
        refine L_u (N_cl Try.func14 rfl nn14 (fun w Q h => s14 _ w Q h) h) ?_
        intro v w h
        refine L_mv ?_
        refine L_g (t := 28) h rfl rfl (fun c h => P_mv h c) ?_
        intro v w h
        refine L_g (t := 28) h rfl rfl (fun c h => P_fa fo23_3 h c) ?_
        intro v w h
        refine L_g (t := 28) h rfl rfl (fun c h => P_ld sc3 h c) ?_
        intro v w h
        refine L_g (t := 28) h rfl rfl (fun c h => P_le h c) ?_
        intro v w h
        refine L_u (P_pk h) ?_
        intro v w h
        refine L_u (P_neb bo4 h) ?_
        intro v w h
        refine L_nil ?_
        refine E_n ?_
        refine C_cnd h (fun h => ?_) (fun h => ?_)
        · refine wp_seq ?_
          refine L_region ?_
          refine L_as ?_
          refine L_nil ?_
          refine E_n ?_
          refine C_ret ?_
          show bodyPost Try.prog Try.f6 (Rt Q) .ret _ _
          exact post_tmps (ts := [4]) (.inr rfl) rfl h
        · refine C_skip ?_
          refine E_n ?_
          refine wp_seq ?_
          refine wp_seq ?_
          refine L_region ?_
          refine L_mv ?_
          refine L_u (P_nt h) ?_
          intro v w h
          refine L_nil ?_
          refine E_n ?_
          refine C_cnd h (fun h => ?_) (fun h => ?_)
          · refine wp_seq ?_
            refine L_region ?_
            refine L_mv ?_
            refine L_u (P_eqi h) ?_
            intro v w h
            refine L_as ?_
            refine L_nil ?_
            refine E_n ?_
            refine C_ret ?_
            show bodyPost Try.prog Try.f6 (Rt Q) .ret _ _
            exact post_tmps (ts := [4]) (.inr rfl) rfl h
          · refine C_skip ?_
            refine E_n ?_
            refine wp_seq ?_
            refine L_region ?_
            refine L_u (P_ldn ag23 h) ?_
            intro v w h
            refine L_u (N_cl Try.func11 rfl nn11 (fun w Q h => s11 _ w Q h) h) ?_
            intro v w h
            refine L_mv ?_
            refine L_mv ?_
            refine L_u (N_cl Try.func17 rfl nn17 (fun w Q h => s17 _ _ _ w Q h) h) ?_
            intro v w h
            refine L_mv ?_
            refine L_u (P_ex h) ?_
            intro v w h
            refine L_u (P_ex h) ?_
            intro v w h
            refine L_as ?_
            refine L_as ?_
            refine L_nil ?_
            refine E_n ?_
            refine wp_seq ?_
            refine wp_seq ?_
            refine L_region ?_
            refine L_mv ?_
            refine L_mv ?_
            refine L_u (P_lt h) ?_
            intro v w h
            refine L_mv ?_
            refine L_g (t := 50) h rfl rfl (fun c h => P_mv h c) ?_
            intro v w h
            refine L_g (t := 50) h rfl rfl (fun c h => P_fa fo23_1 h c) ?_
            intro v w h
            refine L_g (t := 50) h rfl rfl (fun c h => P_ld sc2 h c) ?_
            intro v w h
            refine L_g (t := 50) h rfl rfl (fun c h => P_gt h c) ?_
            intro v w h
            refine L_u (P_pk h) ?_
            intro v w h
            refine L_mv ?_
            refine L_g (t := 56) h rfl rfl (fun c h => P_mv h c) ?_
            intro v w h
            refine L_g (t := 56) h rfl rfl (fun c h => P_gt h c) ?_
            intro v w h
            refine L_g (t := 56) h rfl rfl (fun c h => P_mv h c) ?_
            intro v w h
            refine L_g (t := 59) h rfl rfl (fun c h => P_mv h c) ?_
            intro v w h
            refine L_g (t := 59) h rfl rfl (fun c h => P_fa fo23_0 h c) ?_
            intro v w h
            refine L_g (t := 59) h rfl rfl (fun c h => P_ld sc2 h c) ?_
            intro v w h
            refine L_g (t := 59) h rfl rfl (fun c h => P_lt h c) ?_
            intro v w h
            refine L_g (t := 56) h rfl rfl (fun c h => P_pk h c) ?_
            intro v w h
            refine L_u (P_pk h) ?_
            intro v w h
            refine L_mv ?_
            refine L_g (t := 66) h rfl rfl (fun c h => P_mv h c) ?_
            intro v w h
            refine L_g (t := 66) h rfl rfl (fun c h => P_nt h c) ?_
            intro v w h
            refine L_u (P_pk h) ?_
            intro v w h
            refine L_mv ?_
            refine L_g (t := 70) h rfl rfl (fun c h => P_mv h c) ?_
            intro v w h
            refine L_g (t := 70) h rfl rfl (fun c h => P_mv h c) ?_
            intro v w h
            refine L_g (t := 70) h rfl rfl (fun c h => P_gt h c) ?_
            intro v w h
            refine L_u (P_pk h) ?_
            intro v w h
            refine L_mv ?_
            refine L_g (t := 75) h rfl rfl (fun c h => P_mv h c) ?_
            intro v w h
            refine L_g (t := 75) h rfl rfl (fun c h => P_mv h c) ?_
            intro v w h
            refine L_g (t := 75) h rfl rfl (fun c h => P_qu h c) ?_
            intro v w h
            refine L_g (t := 75) h rfl rfl (fun c h => P_lt h c) ?_
            intro v w h
            refine L_u (P_pk h) ?_
            intro v w h
            refine L_nil ?_
            refine E_n ?_
            refine C_cnd h (fun h => ?_) (fun h => ?_)
            · refine wp_seq ?_
              refine L_region ?_
              refine L_as ?_
              refine L_nil ?_
              refine E_n ?_
              refine C_ret ?_
              show bodyPost Try.prog Try.f6 (Rt Q) .ret _ _
              exact post_tmps (ts := [4]) (.inr rfl) rfl h
            · refine C_skip ?_
              refine E_n ?_
              refine L_region ?_
              refine L_mv ?_
              refine L_as ?_
              refine L_nil ?_
              refine B_n ?_
              refine E_n ?_
              refine L_region ?_
              refine L_mv ?_
              refine L_u (P_ad h) ?_
              intro v w h
              refine L_as ?_
              refine L_nil ?_
              refine E_n ?_
              exact L2 _ _ h
      · refine C_exit ?_
        refine E_x ?_
        refine E_x ?_
        refine B_x ?_
        exact J1 _ _ h
    · unfold f6_j1 at h
      refine E_n ?_
      refine wp_seq ?_
      refine L_region ?_
      refine L_as ?_
      refine L_nil ?_
      refine E_n ?_
      refine C_ret ?_
      show bodyPost Try.prog Try.f6 (Rt Q) .ret _ _
      exact post_tmps (ts := [4]) (.inr rfl) rfl h
end Go.Proofs.Ytoeimnflikbdbaa
