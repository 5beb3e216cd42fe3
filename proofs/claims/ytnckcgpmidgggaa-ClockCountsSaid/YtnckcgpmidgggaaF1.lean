/- Functions as predicate transformers, and that the machine does what they say, by program. -/
import Derived.Test.YtnckcgpmidgggaaF0
set_option linter.unusedVariables false
set_option maxRecDepth 20000
set_option maxHeartbeats 4000000
namespace Go.Proofs.Ytnckcgpmidgggaa
open Sh
attribute [local irreducible] wpL anyG act jn lo gdB amb kp smr nc fa ld ldn st stn ad su mu qu re lt le gt ge eqi nei bws shl shr cat eqs nes lts gts eqb neb nt pk cv al bx ex fld fldn lnl lns ia iaa ixs sls sll sla mif mnm mxm mm asrt sm smu cl cc cf ci cnd gd gdu
/- container/heap.down -/
def f33_j3 (j1 : Value → Value → M) (self2 : Value → Value → Value → Value → M) (t0_2 t1_2 t2_2 t7_1 t9 : Value) : M :=
  ci Try.prog t0_2 "Less" #[t9, t7_1] fun t38 =>
  nt t38 fun t39 =>
  cnd t39 (
    j1 t1_2 t7_1
    ) (
    ci Try.prog t0_2 "Swap" #[t7_1, t9] fun t43 =>
    self2 t0_2 t1_2 t2_2 t9
    )
def f33_b2 (j1 : Value → Value → M) (self2 : Value → Value → Value → Value → M) (t0_1 t1_1 t2_1 t7 : Value) : M :=
  mu .i64 (.int .i64 2) t7 fun t13 =>
  ad .i64 t13 (.int .i64 1) fun t14 =>
  ge .i64 t14 t2_1 fun t17 =>
  gd t17 false (idv t14) fun t19 =>
  gd t17 false (lt .i64 t19 (.int .i64 0)) fun t20 =>
  pk t17 (.bool true) t20 fun t21 =>
  cnd t21 (
    j1 t1_1 t7
    ) (
    ad .i64 t14 (.int .i64 1) fun t24 =>
    lt .i64 t24 t2_1 fun t27 =>
    gd t27 true (idv t0_1) fun t29 =>
    gd t27 true (idv t24) fun t30 =>
    gd t27 true (idv t14) fun t31 =>
    gd t27 true (ci Try.prog t29 "Less" #[t30, t31]) fun t32 =>
    pk t27 t32 (.bool false) fun t33 =>
    jn (fun (j3 : Value → Value → Value → Value → Value → M) =>
      cnd t33 (
        j3 t0_1 t1_1 t2_1 t7 t24
        ) (
        j3 t0_1 t1_1 t2_1 t7 t14
        )
      ) (f33_j3 j1 self2)
    )
def f33_j1 (t1_3 t7_2 : Value) : M :=
  gt .i64 t7_2 t1_3 fun t47 =>
  rt t47
def f33 (t0 t1 t2 : Value) : M :=
  jn (fun (j1 : Value → Value → M) =>
    lo (fun _ _ _ _ => bot) (f33_b2 j1) (fun l => l t0 t1 t2 t1)
    ) (f33_j1)
theorem s33 (t0 t1 t2 : Value) (w : World) (Q : Value → World → Prop) (h : f33 t0 t1 t2 w Q) : Calls Try.prog 33 #[t0, t1, t2] w (Rt Q) := by
  refine calls_of (l := [t0, t1, t2]) Try.func33 rfl Try.ntmps33 (Nat.le_of_ble_eq_true rfl) ?_
  unfold f33 at h
  refine wp_seq ?_
  refine L_region ?_
  refine L_as ?_
  refine L_nil ?_
  refine E_n ?_
  refine wp_seq ?_
  refine L_region ?_
  refine L_mv ?_
  refine L_as ?_
  refine L_nil ?_
  refine E_n ?_
  refine wp_seq ?_
  refine C_join (fun (k : Value → Value → M) (ρ : Nat → Value) => k (ρ 1) (ρ 7)) h (fun j1 J1 h => ?_) (fun ρ w h => ?_)
  · refine C_blk ?_
    refine C_lo (fun (l : Value → Value → Value → Value → M) (ρ : Nat → Value) => l (ρ 0) (ρ 1) (ρ 2) (ρ 7)) h (fun ρ w h => h) (fun nx self2 L2 ρ w h => ?_)
    unfold f33_b2 at h
    refine C_blk ?_
    refine wp_seq ?_
    refine L_region ?_
    refine L_mv ?_
    refine L_u (P_mu h) ?_
    intro v w h
    refine L_u (P_ad h) ?_
    intro v w h
    refine L_as ?_
    refine L_nil ?_
    refine E_n ?_
    refine wp_seq ?_
    refine wp_seq ?_
    refine L_region ?_
    refine L_mv ?_
    refine L_mv ?_
    refine L_u (P_ge h) ?_
    intro v w h
    refine L_mv ?_
    refine L_g (t := 18) h rfl rfl (fun c h => P_mv h c) ?_
    intro v w h
    refine L_g (t := 18) h rfl rfl (fun c h => P_lt h c) ?_
    intro v w h
    refine L_u (P_pk h) ?_
    intro v w h
    refine L_nil ?_
    refine E_n ?_
    refine C_cnd h (fun h => ?_) (fun h => ?_)
    · refine C_exit ?_
      refine E_x ?_
      refine B_o rfl ?_
      refine E_x ?_
      refine B_x ?_
      exact J1 _ _ h
    · refine C_skip ?_
      refine E_n ?_
      refine wp_seq ?_
      refine L_region ?_
      refine L_mv ?_
      refine L_as ?_
      refine L_nil ?_
      refine E_n ?_
      refine wp_seq ?_
      refine wp_seq ?_
      refine L_region ?_
      refine L_mv ?_
      refine L_u (P_ad h) ?_
      intro v w h
      refine L_as ?_
      refine L_nil ?_
      refine E_n ?_
      refine wp_seq ?_
      refine L_region ?_
      refine L_mv ?_
      refine L_mv ?_
      refine L_u (P_lt h) ?_
      intro v w h
      refine L_mv ?_
      refine L_g (t := 28) h rfl rfl (fun c h => P_mv h c) ?_
      intro v w h
      refine L_g (t := 28) h rfl rfl (fun c h => P_mv h c) ?_
      intro v w h
      refine L_g (t := 28) h rfl rfl (fun c h => P_mv h c) ?_
      intro v w h
      refine L_g (t := 28) h rfl rfl (fun c h => N_ci h c) ?_
      intro v w h
      refine L_u (P_pk h) ?_
      intro v w h
      refine L_nil ?_
      refine E_n ?_
      refine C_join (fun (k : Value → Value → Value → Value → Value → M) (ρ : Nat → Value) => k (ρ 0) (ρ 1) (ρ 2) (ρ 7) (ρ 9)) h (fun j3 J3 h => ?_) (fun ρ w h => ?_)
      · refine C_cnd h (fun h => ?_) (fun h => ?_)
        · refine L_region ?_
          refine L_mv ?_
          refine L_as ?_
          refine L_nil ?_
          exact J3 _ _ h
        · refine C_skip ?_
          exact J3 _ _ h
      · unfold f33_j3 at h
        refine E_n ?_
        refine wp_seq ?_
        refine wp_seq ?_
        refine L_region ?_
        refine L_mv ?_
        refine L_mv ?_
        refine L_mv ?_
        refine L_u (N_ci h) ?_
        intro v w h
        refine L_u (P_nt h) ?_
        intro v w h
        refine L_nil ?_
        refine E_n ?_
        refine C_cnd h (fun h => ?_) (fun h => ?_)
        · refine C_exit ?_
          refine E_x ?_
          refine B_o rfl ?_
          refine E_x ?_
          refine B_x ?_
          exact J1 _ _ h
        · refine C_skip ?_
          refine E_n ?_
          refine wp_seq ?_
          refine L_region ?_
          refine L_mv ?_
          refine L_mv ?_
          refine L_mv ?_
          refine L_u (N_ci h) ?_
          intro v w h
          refine L_nil ?_
          refine E_n ?_
          refine L_region ?_
          refine L_mv ?_
          refine L_as ?_
          refine L_nil ?_
          refine B_n ?_
          refine E_n ?_
          exact L2 _ _ h
  · unfold f33_j1 at h
    refine E_n ?_
    refine wp_seq ?_
    refine L_region ?_
    refine L_mv ?_
    refine L_mv ?_
    refine L_u (P_gt h) ?_
    intro v w h
    refine L_as ?_
    refine L_nil ?_
    refine E_n ?_
    refine C_ret ?_
    show bodyPost Try.prog Try.f33 (Rt Q) .ret _ _
    exact post_tmps (ts := [6]) (.inr rfl) rfl h

/- container/heap.Init -/
def f29_b1 (self1 : Value → Value → Value → M) (t0_1 t2 t3 : Value) : M :=
  ge .i64 t3 (.int .i64 0) fun t10 =>
  cnd t10 (
    cl (f33 t0_1 t3 t2) fun t16 =>
    su .i64 t3 (.int .i64 1) fun t12 =>
    self1 t0_1 t2 t12
    ) (
    rt (.tuple #[])
    )
def f29 (t0 : Value) : M :=
  ci Try.prog t0 "Len" #[] fun t5 =>
  qu .i64 t5 (.int .i64 2) fun t7 =>
  su .i64 t7 (.int .i64 1) fun t8 =>
  lo (fun _ _ _ => bot) (f29_b1) (fun l => l t0 t5 t8)
theorem s29 (t0 : Value) (w : World) (Q : Value → World → Prop) (h : f29 t0 w Q) : Calls Try.prog 29 #[t0] w (Rt Q) := by
  refine calls_of (l := [t0]) Try.func29 rfl Try.ntmps29 (Nat.le_of_ble_eq_true rfl) ?_
  unfold f29 at h
  refine wp_seq ?_
  refine L_region ?_
  refine L_mv ?_
  refine L_u (N_ci h) ?_
  intro v w h
  refine L_as ?_
  refine L_nil ?_
  refine E_n ?_
  refine wp_seq ?_
  refine L_region ?_
  refine L_mv ?_
  refine L_u (P_qu h) ?_
  intro v w h
  refine L_u (P_su h) ?_
  intro v w h
  refine L_as ?_
  refine L_nil ?_
  refine E_n ?_
  refine C_blk ?_
  refine C_lo (fun (l : Value → Value → Value → M) (ρ : Nat → Value) => l (ρ 0) (ρ 2) (ρ 3)) h (fun ρ w h => h) (fun nx self1 L1 ρ w h => ?_)
  unfold f29_b1 at h
  refine wp_seq ?_
  refine wp_seq ?_
  refine L_region ?_
  refine L_mv ?_
  refine L_u (P_ge h) ?_
  intro v w h
  refine L_nil ?_
  refine E_n ?_
  refine C_cnd h (fun h => ?_) (fun h => ?_)
  · refine C_skip ?_
    refine E_n ?_
    refine wp_seq ?_
    refine C_blk ?_
    refine L_region ?_
    refine L_mv ?_
    refine L_mv ?_
    refine L_mv ?_
    refine L_u (N_cl Try.func33 rfl nn33 (fun w Q h => s33 _ _ _ w Q h) h) ?_
    intro v w h
    refine L_nil ?_
    refine B_n ?_
    refine E_n ?_
    refine L_region ?_
    refine L_mv ?_
    refine L_u (P_su h) ?_
    intro v w h
    refine L_as ?_
    refine L_nil ?_
    refine E_n ?_
    exact L1 _ _ h
  · refine C_exit ?_
    refine E_x ?_
    refine E_x ?_
    refine B_x ?_
    show bodyPost Try.prog Try.f29 (Rt Q) .normal _ _
    exact post_tmps (ts := []) (.inl rfl) rfl h

/- (factotum/clock.hands).Len -/
def f30 (t0 : Value) : M :=
  lnl t0 fun t4 =>
  rt t4
theorem s30 (t0 : Value) (w : World) (Q : Value → World → Prop) (h : f30 t0 w Q) : Calls Try.prog 30 #[t0] w (Rt Q) := by
  refine calls_of (l := [t0]) Try.func30 rfl Try.ntmps30 (Nat.le_of_ble_eq_true rfl) ?_
  unfold f30 at h
  refine wp_seq ?_
  refine L_region ?_
  refine L_as ?_
  refine L_nil ?_
  refine E_n ?_
  refine wp_seq ?_
  refine L_region ?_
  refine L_mv ?_
  refine L_u (P_lnl is56 h) ?_
  intro v w h
  refine L_as ?_
  refine L_nil ?_
  refine E_n ?_
  refine C_ret ?_
  show bodyPost Try.prog Try.f30 (Rt Q) .ret _ _
  exact post_tmps (ts := [2]) (.inr rfl) rfl h

/- container/heap.up -/
def f34_b1 (self1 : Value → Value → M) (t0_1 t1_1 : Value) : M :=
  su .i64 t1_1 (.int .i64 1) fun t6 =>
  qu .i64 t6 (.int .i64 2) fun t7 =>
  eqi .i64 t7 t1_1 fun t10 =>
  gd t10 false (idv t0_1) fun t12 =>
  gd t10 false (idv t1_1) fun t13 =>
  gd t10 false (idv t7) fun t14 =>
  gd t10 false (ci Try.prog t12 "Less" #[t13, t14]) fun t15 =>
  gd t10 false (nt t15) fun t16 =>
  pk t10 (.bool true) t16 fun t17 =>
  cnd t17 (
    rt (.tuple #[])
    ) (
    ci Try.prog t0_1 "Swap" #[t7, t1_1] fun t21 =>
    self1 t0_1 t7
    )
def f34 (t0 t1 : Value) : M :=
  lo (fun _ _ => bot) (f34_b1) (fun l => l t0 t1)
theorem s34 (t0 t1 : Value) (w : World) (Q : Value → World → Prop) (h : f34 t0 t1 w Q) : Calls Try.prog 34 #[t0, t1] w (Rt Q) := by
  refine calls_of (l := [t0, t1]) Try.func34 rfl Try.ntmps34 (Nat.le_of_ble_eq_true rfl) ?_
  unfold f34 at h
  refine C_blk ?_
  refine C_lo (fun (l : Value → Value → M) (ρ : Nat → Value) => l (ρ 0) (ρ 1)) h (fun ρ w h => h) (fun nx self1 L1 ρ w h => ?_)
  unfold f34_b1 at h
  refine C_blk ?_
  refine wp_seq ?_
  refine L_region ?_
  refine L_mv ?_
  refine L_u (P_su h) ?_
  intro v w h
  refine L_u (P_qu h) ?_
  intro v w h
  refine L_as ?_
  refine L_nil ?_
  refine E_n ?_
  refine wp_seq ?_
  refine wp_seq ?_
  refine L_region ?_
  refine L_mv ?_
  refine L_mv ?_
  refine L_u (P_eqi h) ?_
  intro v w h
  refine L_mv ?_
  refine L_g (t := 11) h rfl rfl (fun c h => P_mv h c) ?_
  intro v w h
  refine L_g (t := 11) h rfl rfl (fun c h => P_mv h c) ?_
  intro v w h
  refine L_g (t := 11) h rfl rfl (fun c h => P_mv h c) ?_
  intro v w h
  refine L_g (t := 11) h rfl rfl (fun c h => N_ci h c) ?_
  intro v w h
  refine L_g (t := 11) h rfl rfl (fun c h => P_nt h c) ?_
  intro v w h
  refine L_u (P_pk h) ?_
  intro v w h
  refine L_nil ?_
  refine E_n ?_
  refine C_cnd h (fun h => ?_) (fun h => ?_)
  · refine C_exit ?_
    refine E_x ?_
    refine B_o rfl ?_
    refine E_x ?_
    refine B_x ?_
    show bodyPost Try.prog Try.f34 (Rt Q) .normal _ _
    exact post_tmps (ts := []) (.inl rfl) rfl h
  · refine C_skip ?_
    refine E_n ?_
    refine wp_seq ?_
    refine L_region ?_
    refine L_mv ?_
    refine L_mv ?_
    refine L_mv ?_
    refine L_u (N_ci h) ?_
    intro v w h
    refine L_nil ?_
    refine E_n ?_
    refine L_region ?_
    refine L_mv ?_
    refine L_as ?_
    refine L_nil ?_
    refine B_n ?_
    refine E_n ?_
    exact L1 _ _ h

/- container/heap.Fix -/
def f31 (t0 t1 : Value) : M :=
  ci Try.prog t0 "Len" #[] fun t7 =>
  cl (f33 t0 t1 t7) fun t8 =>
  nt t8 fun t9 =>
  cnd t9 (
    cl (f34 t0 t1) fun t12 =>
    rt (.tuple #[])
    ) (
    rt (.tuple #[])
    )
theorem s31 (t0 t1 : Value) (w : World) (Q : Value → World → Prop) (h : f31 t0 t1 w Q) : Calls Try.prog 31 #[t0, t1] w (Rt Q) := by
  refine calls_of (l := [t0, t1]) Try.func31 rfl Try.ntmps31 (Nat.le_of_ble_eq_true rfl) ?_
  unfold f31 at h
  refine wp_seq ?_
  refine L_region ?_
  refine L_mv ?_
  refine L_mv ?_
  refine L_mv ?_
  refine L_u (N_ci h) ?_
  intro v w h
  refine L_u (N_cl Try.func33 rfl nn33 (fun w Q h => s33 _ _ _ w Q h) h) ?_
  intro v w h
  refine L_u (P_nt h) ?_
  intro v w h
  refine L_nil ?_
  refine E_n ?_
  refine C_cnd h (fun h => ?_) (fun h => ?_)
  · refine L_region ?_
    refine L_mv ?_
    refine L_mv ?_
    refine L_u (N_cl Try.func34 rfl nn34 (fun w Q h => s34 _ _ w Q h) h) ?_
    intro v w h
    refine L_nil ?_
    show bodyPost Try.prog Try.f31 (Rt Q) .normal _ _
    exact post_tmps (ts := []) (.inl rfl) rfl h
  · refine C_skip ?_
    show bodyPost Try.prog Try.f31 (Rt Q) .normal _ _
    exact post_tmps (ts := []) (.inl rfl) rfl h

/- factotum/clock.Merge -/
def f19_j3 (self2 : Value → Value → Value → Value → Value → Value → M) (t1_2 t2_2 t7_1 t18_1 t19_2 t20_1 : Value) : M :=
  ad .i64 t20_1 (.int .i64 1) fun t38 =>
  self2 t1_2 t2_2 t7_1 t18_1 t19_2 t38
def f19_b2 (j1 : Value → Value → M) (self2 : Value → Value → Value → Value → Value → Value → M) (t1_1 t2_1 t7 t18 t19_1 t20 : Value) : M :=
  lt .i64 t20 t19_1 fun t21 =>
  cnd t21 (
    ia 2 t18 t20 fun t22 =>
    ldn 2 t22 fun t23 =>
    al 27 #[(.int .i64 0), (.int .i64 0)] fun t9 =>
    stn 2 t9 t23 <|
    ldn 2 t9 fun t24 =>
    cl (f11 t24) fun t25 =>
    jn (fun (j3 : Value → Value → Value → Value → Value → Value → M) =>
      cnd t25 (
        dr <|
        idv t7 fun t26 =>
        idv t7 fun t27 =>
        nc t27 fun t28 =>
        ld t28 fun t29 =>
        ldn 2 t9 fun t30 =>
        ldn 2 t9 fun t31 =>
        idv t1_1 fun t32 =>
        cl (f23 t31 t32) fun t33 =>
        kp (Kldn 2 t9 t30) <|
        kp (Kld t28 t29) <|
        smr Try.prog (Instr.build 58 #[(0, t30), (1, t33)]) fun t34 =>
        sm Try.prog (Instr.buildSlice 56 1 #[(0, t34)]) fun t35 =>
        kp (Kld t28 t29) <|
        sm Try.prog (Builtin.append_ #[56, 56] 56 #[t29, t35]) fun t36 =>
        nc t26 fun t37 =>
        st t37 t36 <|
        j3 t1_1 t2_1 t7 t18 t19_1 t20
        ) (
        j3 t1_1 t2_1 t7 t18 t19_1 t20
        )
      ) (f19_j3 self2)
    ) (
    j1 t2_1 t7
    )
def f19_j6 (self5 : Value → Value → Value → M) (t2_5 t7_4 t10_1 t11 : Value) : M :=
  dr <|
  idv t11 fun t81 =>
  nc t81 fun t82 =>
  fa 2 t82 fun t83 =>
  ld t83 fun t84 =>
  idv t11 fun t85 =>
  nc t85 fun t86 =>
  fa 0 t86 fun t87 =>
  fa 0 t87 fun t88 =>
  ld t88 fun t89 =>
  ad .i64 t84 t89 fun t90 =>
  nc t81 fun t91 =>
  fa 2 t91 fun t92 =>
  st t92 t90 <|
  mif 54 t7_4 fun t94 =>
  cl (f31 t94 (.int .i64 0)) fun t95 =>
  self5 t2_5 t7_4 t10_1
def f19_b5 (j4 : Value → M) (self5 : Value → Value → Value → M) (t2_4 t7_3 t10 : Value) : M :=
  nc t7_3 fun t43 =>
  ld t43 fun t44 =>
  cl (f30 t44) fun t45 =>
  gt .i64 t45 (.int .i64 0) fun t46 =>
  gd t46 true (idv t10) fun t48 =>
  gd t46 true (lnl t48) fun t49 =>
  gd t46 true (idv t2_4) fun t50 =>
  gd t46 true (mnm t50 (.int .i64 1000)) fun t51 =>
  gd t46 true (lt .i64 t49 t51) fun t52 =>
  pk t46 t52 (.bool false) fun t53 =>
  cnd t53 (
    nc t7_3 fun t55 =>
    ld t55 fun t56 =>
    ia 3 t56 (.int .i64 0) fun t57 =>
    lnl t10 fun t59 =>
    dr <|
    idv t59 fun t60 =>
    eqi .i64 t60 (.int .i64 0) fun t61 =>
    idv t61 fun t62 =>
    gd t62 false (idv t10) fun t63 =>
    gd t62 false (idv t59) fun t64 =>
    gd t62 false (su .i64 t64 (.int .i64 1)) fun t65 =>
    gd t62 false (ia 1 t63 t65) fun t66 =>
    gd t62 false (ld t66) fun t67 =>
    gd t62 false (idv t57) fun t68 =>
    gd t62 false (nc t68) fun t69 =>
    gd t62 false (fa 2 t69) fun t70 =>
    gd t62 false (ld t70) fun t71 =>
    gd t62 false (nei .i64 t67 t71) fun t72 =>
    pk t62 (.bool true) t72 fun t73 =>
    jn (fun (j6 : Value → Value → Value → Value → M) =>
      cnd t73 (
        nc t57 fun t76 =>
        fa 2 t76 fun t77 =>
        ld t77 fun t78 =>
        sm Try.prog (Instr.buildSlice 44 1 #[(0, t78)]) fun t79 =>
        sm Try.prog (Builtin.append_ #[44, 44] 44 #[t10, t79]) fun t80 =>
        j6 t2_4 t7_3 t80 t57
        ) (
        j6 t2_4 t7_3 t10 t57
        )
      ) (f19_j6 self5)
    ) (
    j4 t10
    )
def f19_j4 (t10_2 : Value) : M :=
  rt t10_2
def f19_j1 (t2_3 t7_2 : Value) : M :=
  mif 54 t7_2 fun t40 =>
  cl (f29 t40) fun t41 =>
  jn (fun (j4 : Value → M) =>
    lo (fun _ _ _ => bot) (f19_b5 j4) (fun l => l t2_3 t7_2 (.slice none 0 0))
    ) (f19_j4)
def f19 (t0 t1 t2 : Value) : M :=
  cl (f22 t1) fun t14 =>
  nt t14 fun t15 =>
  cnd t15 (
    rt (.slice none 0 0)
    ) (
    sm Try.prog (Instr.buildSlice 56 0 #[]) fun t16 =>
    bx 56 t16 fun t17 =>
    lnl t0 fun t19 =>
    jn (fun (j1 : Value → Value → M) =>
      lo (fun _ _ _ _ _ _ => bot) (f19_b2 j1) (fun l => l t1 t2 t17 t0 t19 (.int .i64 0))
      ) (f19_j1)
    )
theorem s19 (t0 t1 t2 : Value) (w : World) (Q : Value → World → Prop) (h : f19 t0 t1 t2 w Q) : Calls Try.prog 19 #[t0, t1, t2] w (Rt Q) := by
  refine calls_of (l := [t0, t1, t2]) Try.func19 rfl Try.ntmps19 (Nat.le_of_ble_eq_true rfl) ?_
  unfold f19 at h
  refine wp_seq ?_
  refine L_region ?_
  refine L_as ?_
  refine L_nil ?_
  refine E_n ?_
  refine wp_seq ?_
  refine wp_seq ?_
  refine L_region ?_
  refine L_mv ?_
  refine L_u (N_cl Try.func22 rfl nn22 (fun w Q h => s22 _ w Q h) h) ?_
  intro v w h
  refine L_u (P_nt h) ?_
  intro v w h
  refine L_nil ?_
  refine E_n ?_
  refine C_cnd h (fun h => ?_) (fun h => ?_)
  · refine wp_seq ?_
    refine L_region ?_
    refine L_as ?_
    refine L_nil ?_
    refine E_n ?_
    refine C_ret ?_
    show bodyPost Try.prog Try.f19 (Rt Q) .ret _ _
    exact post_tmps (ts := [6]) (.inr rfl) rfl h
  · refine C_skip ?_
    refine E_n ?_
    refine wp_seq ?_
    refine L_region ?_
    refine L_u (N_bsl h) ?_
    intro v w h
    refine L_u (P_bx h) ?_
    intro v w h
    refine L_as ?_
    refine L_nil ?_
    refine E_n ?_
    refine wp_seq ?_
    refine wp_seq ?_
    refine L_region ?_
    refine L_mv ?_
    refine L_u (P_lnl is46 h) ?_
    intro v w h
    refine L_mv ?_
    refine L_nil ?_
    refine E_n ?_
    refine C_join (fun (k : Value → Value → M) (ρ : Nat → Value) => k (ρ 2) (ρ 7)) h (fun j1 J1 h => ?_) (fun ρ w h => ?_)
    · refine C_blk ?_
      refine C_lo (fun (l : Value → Value → Value → Value → Value → Value → M) (ρ : Nat → Value) => l (ρ 1) (ρ 2) (ρ 7) (ρ 18) (ρ 19) (ρ 20)) h (fun ρ w h => h) (fun nx self2 L2 ρ w h => ?_)
      unfold f19_b2 at h
      refine wp_seq ?_
      refine L_region ?_
      refine L_u (P_lt h) ?_
      intro v w h
      refine L_nil ?_
      refine E_n ?_
      refine wp_seq ?_
      refine C_cnd h (fun h => ?_) (fun h => ?_)
      · refine C_skip ?_
        refine E_n ?_
        refine wp_seq ?_
        refine C_blk ?_
        refine wp_seq ?_
        refine L_region ?_
        refine L_u (P_ia se46 h) ?_
        intro v w h
        refine L_u (P_ldn ag27 h) ?_
        intro v w h
        refine L_u (P_al ze27 rfl h) ?_
        intro v w h
        refine L_u (P_stn ag27 h) ?_
        intro w h
        refine L_nil ?_
        refine E_n ?_
        refine wp_seq ?_
        refine L_region ?_
        refine L_u (P_ldn ag27 h) ?_
        intro v w h
        refine L_u (N_cl Try.func11 rfl nn11 (fun w Q h => s11 _ w Q h) h) ?_
        intro v w h
        refine L_nil ?_
        refine E_n ?_
        refine C_join (fun (k : Value → Value → Value → Value → Value → Value → M) (ρ : Nat → Value) => k (ρ 1) (ρ 2) (ρ 7) (ρ 18) (ρ 19) (ρ 20)) h (fun j3 J3 h => ?_) (fun ρ w h => ?_)
        · refine C_cnd h (fun h => ?_) (fun h => ?_)
          · refine D_region (by decide +kernel) 13 rfl ?_
            replace h := dr_e h
            refine G_p 0 rfl (by decide +kernel) (Y_mv h) ?_
            intro v h
            refine G_p 1 rfl (by decide +kernel) (Y_mv h) ?_
            intro v h
            refine G_p 2 rfl (by decide +kernel) (Y_nc h) ?_
            intro v h
            refine G_r _ 3 rfl (by decide +kernel) (R_ld sc56 h) ?_
            intro v h
            refine G_r _ 4 rfl (by decide +kernel) (R_ldn ag27 h) ?_
            intro v h
            refine G_r _ 5 rfl (by decide +kernel) (R_ldn ag27 h) ?_
            intro v h
            refine G_p 6 rfl (by decide +kernel) (Y_mv h) ?_
            intro v h
            refine G_e 7 rfl (by decide +kernel) (N_cl Try.func23 rfl nn23 (fun w Q h => s23 _ _ w Q h) h ?_)
            intro v w h
            refine ⟨keepF_dep [5] (by decide +kernel) rfl (keepF_cons (kp_1 h) (keepF_cons (kp_1 (kp_2 h)) keepF_nil)), ?_⟩
            replace h := (kp_2 (kp_2 h))
            refine G_r _ 8 rfl (by decide +kernel) (R_bld h) ?_
            intro v h
            refine G_e 9 rfl (by decide +kernel) (N_bsl h ?_)
            intro v w h
            refine ⟨keepF_dep [8] (by decide +kernel) rfl (keepF_dep [8, 7, 5] (by decide +kernel) rfl (keepF_dep [8, 4] (by decide +kernel) rfl (keepF_cons (kp_1 h) keepF_nil))), ?_⟩
            replace h := (kp_2 h)
            refine G_e 10 rfl (by decide +kernel) (N_bi rfl h ?_)
            intro v w h
            refine ⟨keepF_dep [9, 8] (by decide +kernel) rfl (keepF_dep [7, 5] (by decide +kernel) rfl (keepF_dep [9, 8, 4] (by decide +kernel) rfl (keepF_dep [3] (by decide +kernel) rfl keepF_nil))), ?_⟩
            refine G_p 11 rfl (by decide +kernel) (Y_nc h) ?_
            intro v h
            refine G_e 12 rfl (by decide +kernel) (P_st on56 h ?_)
            intro w h
            refine ⟨keepF_dep [8] (by decide +kernel) rfl (keepF_dep [5] (by decide +kernel) rfl (keepF_dep [4] (by decide +kernel) rfl (keepF_dep [3] (by decide +kernel) rfl keepF_nil))), ?_⟩
            refine G_done (by decide +kernel) ?_
            exact J3 _ _ h
          · refine C_skip ?_
            exact J3 _ _ h
        · unfold f19_j3 at h
          refine B_n ?_
          refine E_n ?_
          refine L_region ?_
          refine L_u (P_ad h) ?_
          intro v w h
          refine L_mv ?_
          refine L_nil ?_
          refine E_n ?_
          exact L2 _ _ h
      · refine C_exit ?_
        refine E_x ?_
        refine E_x ?_
        refine B_x ?_
        exact J1 _ _ h
    · unfold f19_j1 at h
      refine E_n ?_
      refine wp_seq ?_
      refine L_region ?_
      refine L_mv ?_
      refine L_u (P_mif co54 h) ?_
      intro v w h
      refine L_u (N_cl Try.func29 rfl nn29 (fun w Q h => s29 _ w Q h) h) ?_
      intro v w h
      refine L_nil ?_
      refine E_n ?_
      refine wp_seq ?_
      refine L_region ?_
      refine L_as ?_
      refine L_nil ?_
      refine E_n ?_
      refine wp_seq ?_
      refine C_join (fun (k : Value → M) (ρ : Nat → Value) => k (ρ 10)) h (fun j4 J4 h => ?_) (fun ρ w h => ?_)
      · refine C_blk ?_
        refine C_lo (fun (l : Value → Value → Value → M) (ρ : Nat → Value) => l (ρ 2) (ρ 7) (ρ 10)) h (fun ρ w h => h) (fun nx self5 L5 ρ w h => ?_)
        unfold f19_b5 at h
        refine wp_seq ?_
        refine wp_seq ?_
        refine L_region ?_
        refine L_mv ?_
        refine L_u (P_nc h) ?_
        intro v w h
        refine L_u (P_ld sc56 h) ?_
        intro v w h
        refine L_u (N_cl Try.func30 rfl nn30 (fun w Q h => s30 _ w Q h) h) ?_
        intro v w h
        refine L_u (P_gt h) ?_
        intro v w h
        refine L_mv ?_
        refine L_g (t := 47) h rfl rfl (fun c h => P_mv h c) ?_
        intro v w h
        refine L_g (t := 47) h rfl rfl (fun c h => P_lnl is44 h c) ?_
        intro v w h
        refine L_g (t := 47) h rfl rfl (fun c h => P_mv h c) ?_
        intro v w h
        refine L_g (t := 47) h rfl rfl (fun c h => P_mnm (t := 0) h c) ?_
        intro v w h
        refine L_g (t := 47) h rfl rfl (fun c h => P_lt h c) ?_
        intro v w h
        refine L_u (P_pk h) ?_
        intro v w h
        refine L_nil ?_
        refine E_n ?_
        refine C_cnd h (fun h => ?_) (fun h => ?_)
        · refine C_skip ?_
          refine E_n ?_
          refine C_blk ?_
          refine wp_seq ?_
          refine L_region ?_
          refine L_mv ?_
          refine L_u (P_nc h) ?_
          intro v w h
          refine L_u (P_ld sc56 h) ?_
          intro v w h
          refine L_u (P_ia se56 h) ?_
          intro v w h
          refine L_as ?_
          refine L_nil ?_
          refine E_n ?_
          refine wp_seq ?_
          refine wp_seq ?_
          refine L_region ?_
          refine L_mv ?_
          refine L_u (P_lnl is44 h) ?_
          intro v w h
          refine L_as ?_
          refine L_nil ?_
          refine E_n ?_
          refine wp_seq ?_
          refine D_region (by decide +kernel) 14 rfl ?_
          replace h := dr_e h
          refine G_p 0 rfl (by decide +kernel) (Y_mv h) ?_
          intro v h
          refine G_p 1 rfl (by decide +kernel) (Y_eqi h) ?_
          intro v h
          refine G_p 2 rfl (by decide +kernel) (Y_mv h) ?_
          intro v h
          refine G_pg (t := 62) 3 rfl (by decide +kernel) h rfl rfl (fun h => Y_mv h) ?_
          intro v h
          refine G_pg (t := 62) 4 rfl (by decide +kernel) h rfl rfl (fun h => Y_mv h) ?_
          intro v h
          refine G_pg (t := 62) 5 rfl (by decide +kernel) h rfl rfl (fun h => Y_su h) ?_
          intro v h
          refine G_pg (t := 62) 6 rfl (by decide +kernel) h rfl rfl (fun h => Y_ia se44 h) ?_
          intro v h
          refine G_rg (t := 62) _ 7 rfl (by decide +kernel) h rfl rfl (fun h => R_ld sc2 h) ?_
          intro v h
          refine G_pg (t := 62) 8 rfl (by decide +kernel) h rfl rfl (fun h => Y_mv h) ?_
          intro v h
          refine G_pg (t := 62) 9 rfl (by decide +kernel) h rfl rfl (fun h => Y_nc h) ?_
          intro v h
          refine G_pg (t := 62) 10 rfl (by decide +kernel) h rfl rfl (fun h => Y_fa fo58_1 h) ?_
          intro v h
          refine G_rg (t := 62) _ 11 rfl (by decide +kernel) h rfl rfl (fun h => R_ld sc2 h) ?_
          intro v h
          refine G_pg (t := 62) 12 rfl (by decide +kernel) h rfl rfl (fun h => Y_nei h) ?_
          intro v h
          refine G_p 13 rfl (by decide +kernel) (Y_pk h) ?_
          intro v h
          refine G_done (by decide +kernel) ?_
          refine E_n ?_
          refine C_join (fun (k : Value → Value → Value → Value → M) (ρ : Nat → Value) => k (ρ 2) (ρ 7) (ρ 10) (ρ 11)) h (fun j6 J6 h => ?_) (fun ρ w h => ?_)
          · refine C_cnd h (fun h => ?_) (fun h => ?_)
            · refine L_region ?_
              refine L_mv ?_
              refine L_mv ?_
              refine L_u (P_nc h) ?_
              intro v w h
              refine L_u (P_fa fo58_1 h) ?_
              intro v w h
              refine L_u (P_ld sc2 h) ?_
              intro v w h
              refine L_u (N_bsl h) ?_
              intro v w h
              refine L_u (N_bi rfl h) ?_
              intro v w h
              refine L_as ?_
              refine L_nil ?_
              exact J6 _ _ h
            · refine C_skip ?_
              exact J6 _ _ h
          · unfold f19_j6 at h
            refine E_n ?_
            refine wp_seq ?_
            refine D_region (by decide +kernel) 13 rfl ?_
            replace h := dr_e h
            refine G_p 0 rfl (by decide +kernel) (Y_mv h) ?_
            intro v h
            refine G_p 1 rfl (by decide +kernel) (Y_nc h) ?_
            intro v h
            refine G_p 2 rfl (by decide +kernel) (Y_fa fo58_1 h) ?_
            intro v h
            refine G_r _ 3 rfl (by decide +kernel) (R_ld sc2 h) ?_
            intro v h
            refine G_p 4 rfl (by decide +kernel) (Y_mv h) ?_
            intro v h
            refine G_p 5 rfl (by decide +kernel) (Y_nc h) ?_
            intro v h
            refine G_p 6 rfl (by decide +kernel) (Y_fa fo58_0 h) ?_
            intro v h
            refine G_p 7 rfl (by decide +kernel) (Y_fa fo27_0 h) ?_
            intro v h
            refine G_r _ 8 rfl (by decide +kernel) (R_ld sc2 h) ?_
            intro v h
            refine G_p 9 rfl (by decide +kernel) (Y_ad h) ?_
            intro v h
            refine G_p 10 rfl (by decide +kernel) (Y_nc h) ?_
            intro v h
            refine G_p 11 rfl (by decide +kernel) (Y_fa fo58_1 h) ?_
            intro v h
            refine G_e 12 rfl (by decide +kernel) (P_st on2 h ?_)
            intro w h
            refine ⟨keepF_dep [8] (by decide +kernel) rfl (keepF_dep [3] (by decide +kernel) rfl keepF_nil), ?_⟩
            refine G_done (by decide +kernel) ?_
            refine E_n ?_
            refine L_region ?_
            refine L_mv ?_
            refine L_u (P_mif co54 h) ?_
            intro v w h
            refine L_u (N_cl Try.func31 rfl nn31 (fun w Q h => s31 _ _ w Q h) h) ?_
            intro v w h
            refine L_nil ?_
            refine B_n ?_
            refine E_n ?_
            exact L5 _ _ h
        · refine C_exit ?_
          refine E_x ?_
          refine E_x ?_
          refine B_x ?_
          exact J4 _ _ h
      · unfold f19_j4 at h
        refine E_n ?_
        refine wp_seq ?_
        refine L_region ?_
        refine L_mv ?_
        refine L_as ?_
        refine L_nil ?_
        refine E_n ?_
        refine C_ret ?_
        show bodyPost Try.prog Try.f19 (Rt Q) .ret _ _
        exact post_tmps (ts := [6]) (.inr rfl) rfl h

/- factotum/factotumlaw34.all -/
def f20_b2 (j1 : Value → M) (self2 : Value → Value → Value → M) (t0_1 t3 t4 : Value) : M :=
  lnl t0_1 fun t7 =>
  lt .i64 t4 t7 fun t8 =>
  gd t8 true (idv t4) fun t10 =>
  gd t8 true (lt .i64 t10 (.int .i64 20)) fun t11 =>
  pk t8 t11 (.bool false) fun t12 =>
  cnd t12 (
    ia 2 t0_1 t4 fun t18 =>
    ldn 2 t18 fun t19 =>
    cl (f9 t19) fun t20 =>
    sm Try.prog (Instr.buildSlice 46 1 #[(0, t20)]) fun t21 =>
    sm Try.prog (Builtin.append_ #[46, 46] 46 #[t3, t21]) fun t22 =>
    ad .i64 t4 (.int .i64 1) fun t14 =>
    self2 t0_1 t22 t14
    ) (
    j1 t3
    )
def f20_j1 (t3_1 : Value) : M :=
  rt t3_1
def f20 (t0 : Value) : M :=
  jn (fun (j1 : Value → M) =>
    lo (fun _ _ _ => bot) (f20_b2 j1) (fun l => l t0 (.slice none 0 0) (.int .i64 0))
    ) (f20_j1)
theorem s20 (t0 : Value) (w : World) (Q : Value → World → Prop) (h : f20 t0 w Q) : Calls Try.prog 20 #[t0] w (Rt Q) := by
  refine calls_of (l := [t0]) Try.func20 rfl Try.ntmps20 (Nat.le_of_ble_eq_true rfl) ?_
  unfold f20 at h
  refine wp_seq ?_
  refine L_region ?_
  refine L_as ?_
  refine L_nil ?_
  refine E_n ?_
  refine wp_seq ?_
  refine L_region ?_
  refine L_as ?_
  refine L_nil ?_
  refine E_n ?_
  refine wp_seq ?_
  refine wp_seq ?_
  refine L_region ?_
  refine L_as ?_
  refine L_nil ?_
  refine E_n ?_
  refine C_join (fun (k : Value → M) (ρ : Nat → Value) => k (ρ 3)) h (fun j1 J1 h => ?_) (fun ρ w h => ?_)
  · refine C_blk ?_
    refine C_lo (fun (l : Value → Value → Value → M) (ρ : Nat → Value) => l (ρ 0) (ρ 3) (ρ 4)) h (fun ρ w h => h) (fun nx self2 L2 ρ w h => ?_)
    unfold f20_b2 at h
    refine wp_seq ?_
    refine wp_seq ?_
    refine L_region ?_
    refine L_mv ?_
    refine L_mv ?_
    refine L_u (P_lnl is43 h) ?_
    intro v w h
    refine L_u (P_lt h) ?_
    intro v w h
    refine L_mv ?_
    refine L_g (t := 9) h rfl rfl (fun c h => P_mv h c) ?_
    intro v w h
    refine L_g (t := 9) h rfl rfl (fun c h => P_lt h c) ?_
    intro v w h
    refine L_u (P_pk h) ?_
    intro v w h
    refine L_nil ?_
    refine E_n ?_
    refine C_cnd h (fun h => ?_) (fun h => ?_)
    · refine C_skip ?_
      refine E_n ?_
      refine wp_seq ?_
      refine C_blk ?_
      refine L_region ?_
      refine L_mv ?_
      refine L_mv ?_
      refine L_mv ?_
      refine L_u (P_ia se43 h) ?_
      intro v w h
      refine L_u (P_ldn ag23 h) ?_
      intro v w h
      refine L_u (N_cl Try.func9 rfl nn9 (fun w Q h => s9 _ w Q h) h) ?_
      intro v w h
      refine L_u (N_bsl h) ?_
      intro v w h
      refine L_u (N_bi rfl h) ?_
      intro v w h
      refine L_as ?_
      refine L_nil ?_
      refine B_n ?_
      refine E_n ?_
      refine L_region ?_
      refine L_mv ?_
      refine L_u (P_ad h) ?_
      intro v w h
      refine L_as ?_
      refine L_nil ?_
      refine E_n ?_
      exact L2 _ _ h
    · refine C_exit ?_
      refine E_x ?_
      refine E_x ?_
      refine B_x ?_
      exact J1 _ _ h
  · unfold f20_j1 at h
    refine E_n ?_
    refine wp_seq ?_
    refine L_region ?_
    refine L_mv ?_
    refine L_as ?_
    refine L_nil ?_
    refine E_n ?_
    refine C_ret ?_
    show bodyPost Try.prog Try.f20 (Rt Q) .ret _ _
    exact post_tmps (ts := [2]) (.inr rfl) rfl h

/- factotum/factotumref34.Merge -/
def f21_b7 (j6 : Value → Value → Value → Value → Value → Value → Value → Value → M) (self7 : Value → Value → Value → Value → Value → Value → Value → Value → M) (t0_3 t2_3 t7_2 t8_2 t9_1 t10_1 t11_1 t12_1 : Value) : M :=
  le .i64 t12_1 t8_2 fun t52 =>
  cnd t52 (
    ia 2 t0_3 t11_1 fun t56 =>
    fa 0 t56 fun t57 =>
    ld t57 fun t58 =>
    ad .i64 t12_1 t58 fun t59 =>
    self7 t0_3 t2_3 t7_2 t8_2 t9_1 t10_1 t11_1 t59
    ) (
    j6 t0_3 t2_3 t7_2 t8_2 t9_1 t10_1 t11_1 t12_1
    )
def f21_j6 (j5 : Value → Value → Value → Value → Value → Value → Value → M) (t0_4 t2_4 t7_3 t8_3 t9_2 t10_2 t11_2 t12_2 : Value) : M :=
  nt t10_2 fun t61 =>
  gd t61 false (idv t12_2) fun t63 =>
  gd t61 false (idv t9_2) fun t64 =>
  gd t61 false (lt .i64 t63 t64) fun t65 =>
  pk t61 (.bool true) t65 fun t66 =>
  cnd t66 (
    j5 t0_4 t2_4 t7_3 t8_3 t12_2 (.bool true) t11_2
    ) (
    j5 t0_4 t2_4 t7_3 t8_3 t9_2 t10_2 t11_2
    )
def f21_j5 (self4 : Value → Value → Value → Value → Value → Value → Value → M) (t0_5 t2_5 t7_4 t8_4 t9_3 t10_3 t11_3 : Value) : M :=
  ad .i64 t11_3 (.int .i64 1) fun t28 =>
  self4 t0_5 t2_5 t7_4 t8_4 t9_3 t10_3 t28
def f21_b4 (j3 : Value → Value → Value → Value → Value → M) (self4 : Value → Value → Value → Value → Value → Value → Value → M) (t0_2 t2_2 t7_1 t8_1 t9 t10 t11 : Value) : M :=
  lnl t0_2 fun t25 =>
  lt .i64 t11 t25 fun t26 =>
  cnd t26 (
    jn (fun (j5 : Value → Value → Value → Value → Value → Value → Value → M) =>
      ia 2 t0_2 t11 fun t31 =>
      ldn 2 t31 fun t32 =>
      cl (f12 t32) fun t33 =>
      nt t33 fun t34 =>
      cnd t34 (
        j5 t0_2 t2_2 t7_1 t8_1 t9 t10 t11
        ) (
        dr <|
        idv t8_1 fun t35 =>
        idv t8_1 fun t36 =>
        idv t0_2 fun t37 =>
        idv t11 fun t38 =>
        ia 2 t37 t38 fun t39 =>
        fa 1 t39 fun t40 =>
        ld t40 fun t41 =>
        su .i64 t36 t41 fun t42 =>
        idv t0_2 fun t43 =>
        idv t11 fun t44 =>
        ia 2 t43 t44 fun t45 =>
        fa 0 t45 fun t46 =>
        ld t46 fun t47 =>
        re .i64 t42 t47 fun t48 =>
        su .i64 t35 t48 fun t49 =>
        idv t49 fun t12 =>
        jn (fun (j6 : Value → Value → Value → Value → Value → Value → Value → Value → M) =>
          lo (fun _ _ _ _ _ _ _ _ => bot) (f21_b7 j6) (fun l => l t0_2 t2_2 t7_1 t8_1 t9 t10 t11 t12)
          ) (f21_j6 j5)
        )
      ) (f21_j5 self4)
    ) (
    j3 t0_2 t2_2 t7_1 t9 t10
    )
def f21_j3 (j1 : Value → M) (self2 : Value → Value → Value → Value → M) (t0_6 t2_6 t7_5 t9_4 t10_4 : Value) : M :=
  nt t10_4 fun t69 =>
  cnd t69 (
    j1 t7_5
    ) (
    sm Try.prog (Instr.buildSlice 44 1 #[(0, t9_4)]) fun t72 =>
    sm Try.prog (Builtin.append_ #[44, 44] 44 #[t7_5, t72]) fun t73 =>
    self2 t0_6 t2_6 t73 t9_4
    )
def f21_b2 (j1 : Value → M) (self2 : Value → Value → Value → Value → M) (t0_1 t2_1 t7 t8 : Value) : M :=
  lnl t7 fun t19 =>
  mnm t2_1 (.int .i64 1000) fun t21 =>
  lt .i64 t19 t21 fun t22 =>
  cnd t22 (
    jn (fun (j3 : Value → Value → Value → Value → Value → M) =>
      lo (fun _ _ _ _ _ _ _ => bot) (f21_b4 j3) (fun l => l t0_1 t2_1 t7 t8 (.int .i64 0) (.bool false) (.int .i64 0))
      ) (f21_j3 j1 self2)
    ) (
    j1 t7
    )
def f21_j1 (t7_6 : Value) : M :=
  rt t7_6
def f21 (t0 t1 t2 : Value) : M :=
  cl (f24 t1) fun t14 =>
  nt t14 fun t15 =>
  cnd t15 (
    rt (.slice none 0 0)
    ) (
    su .i64 t1 (.int .i64 1) fun t17 =>
    jn (fun (j1 : Value → M) =>
      lo (fun _ _ _ _ => bot) (f21_b2 j1) (fun l => l t0 t2 (.slice none 0 0) t17)
      ) (f21_j1)
    )
theorem s21 (t0 t1 t2 : Value) (w : World) (Q : Value → World → Prop) (h : f21 t0 t1 t2 w Q) : Calls Try.prog 21 #[t0, t1, t2] w (Rt Q) := by
  refine calls_of (l := [t0, t1, t2]) Try.func21 rfl Try.ntmps21 (Nat.le_of_ble_eq_true rfl) ?_
  unfold f21 at h
  refine wp_seq ?_
  refine L_region ?_
  refine L_as ?_
  refine L_nil ?_
  refine E_n ?_
  refine wp_seq ?_
  refine L_region ?_
  refine L_as ?_
  refine L_nil ?_
  refine E_n ?_
  refine wp_seq ?_
  refine wp_seq ?_
  refine L_region ?_
  refine L_mv ?_
  refine L_u (N_cl Try.func24 rfl nn24 (fun w Q h => s24 _ w Q h) h) ?_
  intro v w h
  refine L_u (P_nt h) ?_
  intro v w h
  refine L_nil ?_
  refine E_n ?_
  refine C_cnd h (fun h => ?_) (fun h => ?_)
  · refine wp_seq ?_
    refine L_region ?_
    refine L_as ?_
    refine L_nil ?_
    refine E_n ?_
    refine C_ret ?_
    show bodyPost Try.prog Try.f21 (Rt Q) .ret _ _
    exact post_tmps (ts := [6]) (.inr rfl) rfl h
  · refine C_skip ?_
    refine E_n ?_
    refine wp_seq ?_
    refine L_region ?_
    refine L_mv ?_
    refine L_u (P_su h) ?_
    intro v w h
    refine L_as ?_
    refine L_nil ?_
    refine E_n ?_
    refine wp_seq ?_
    refine C_join (fun (k : Value → M) (ρ : Nat → Value) => k (ρ 7)) h (fun j1 J1 h => ?_) (fun ρ w h => ?_)
    · refine C_blk ?_
      refine C_lo (fun (l : Value → Value → Value → Value → M) (ρ : Nat → Value) => l (ρ 0) (ρ 2) (ρ 7) (ρ 8)) h (fun ρ w h => h) (fun nx self2 L2 ρ w h => ?_)
      unfold f21_b2 at h
      refine wp_seq ?_
      refine wp_seq ?_
      refine L_region ?_
      refine L_mv ?_
      refine L_u (P_lnl is44 h) ?_
      intro v w h
      refine L_mv ?_
      refine L_u (P_mnm (t := 0) h) ?_
      intro v w h
      refine L_u (P_lt h) ?_
      intro v w h
      refine L_nil ?_
      refine E_n ?_
      refine C_cnd h (fun h => ?_) (fun h => ?_)
      · refine C_skip ?_
        refine E_n ?_
        refine C_blk ?_
        refine wp_seq ?_
        refine L_region ?_
        refine L_as ?_
        refine L_nil ?_
        refine E_n ?_
        refine wp_seq ?_
        refine L_region ?_
        refine L_as ?_
        refine L_nil ?_
        refine E_n ?_
        refine wp_seq ?_
        refine wp_seq ?_
        refine L_region ?_
        refine L_as ?_
        refine L_nil ?_
        refine E_n ?_
        refine C_join (fun (k : Value → Value → Value → Value → Value → M) (ρ : Nat → Value) => k (ρ 0) (ρ 2) (ρ 7) (ρ 9) (ρ 10)) h (fun j3 J3 h => ?_) (fun ρ w h => ?_)
        · refine C_blk ?_
          refine C_lo (fun (l : Value → Value → Value → Value → Value → Value → Value → M) (ρ : Nat → Value) => l (ρ 0) (ρ 2) (ρ 7) (ρ 8) (ρ 9) (ρ 10) (ρ 11)) h (fun ρ w h => h) (fun nx self4 L4 ρ w h => ?_)
          unfold f21_b4 at h
          refine wp_seq ?_
          refine wp_seq ?_
          refine L_region ?_
          refine L_mv ?_
          refine L_mv ?_
          refine L_u (P_lnl is43 h) ?_
          intro v w h
          refine L_u (P_lt h) ?_
          intro v w h
          refine L_nil ?_
          refine E_n ?_
          refine C_cnd h (fun h => ?_) (fun h => ?_)
          · refine C_skip ?_
            refine E_n ?_
            refine wp_seq ?_
            refine C_join (fun (k : Value → Value → Value → Value → Value → Value → Value → M) (ρ : Nat → Value) => k (ρ 0) (ρ 2) (ρ 7) (ρ 8) (ρ 9) (ρ 10) (ρ 11)) h (fun j5 J5 h => ?_) (fun ρ w h => ?_)
            · refine C_blk ?_
              refine wp_seq ?_
              refine wp_seq ?_
              refine L_region ?_
              refine L_mv ?_
              refine L_mv ?_
              refine L_u (P_ia se43 h) ?_
              intro v w h
              refine L_u (P_ldn ag23 h) ?_
              intro v w h
              refine L_u (N_cl Try.func12 rfl nn12 (fun w Q h => s12 _ w Q h) h) ?_
              intro v w h
              refine L_u (P_nt h) ?_
              intro v w h
              refine L_nil ?_
              refine E_n ?_
              refine C_cnd h (fun h => ?_) (fun h => ?_)
              · refine C_exit ?_
                refine E_x ?_
                refine B_x ?_
                exact J5 _ _ h
              · refine C_skip ?_
                refine E_n ?_
                refine wp_seq ?_
                refine D_region (by decide +kernel) 16 rfl ?_
                replace h := dr_e h
                refine G_p 0 rfl (by decide +kernel) (Y_mv h) ?_
                intro v h
                refine G_p 1 rfl (by decide +kernel) (Y_mv h) ?_
                intro v h
                refine G_p 2 rfl (by decide +kernel) (Y_mv h) ?_
                intro v h
                refine G_p 3 rfl (by decide +kernel) (Y_mv h) ?_
                intro v h
                refine G_p 4 rfl (by decide +kernel) (Y_ia se43 h) ?_
                intro v h
                refine G_p 5 rfl (by decide +kernel) (Y_fa fo23_1 h) ?_
                intro v h
                refine G_r _ 6 rfl (by decide +kernel) (R_ld sc2 h) ?_
                intro v h
                refine G_p 7 rfl (by decide +kernel) (Y_su h) ?_
                intro v h
                refine G_p 8 rfl (by decide +kernel) (Y_mv h) ?_
                intro v h
                refine G_p 9 rfl (by decide +kernel) (Y_mv h) ?_
                intro v h
                refine G_p 10 rfl (by decide +kernel) (Y_ia se43 h) ?_
                intro v h
                refine G_p 11 rfl (by decide +kernel) (Y_fa fo23_0 h) ?_
                intro v h
                refine G_r _ 12 rfl (by decide +kernel) (R_ld sc2 h) ?_
                intro v h
                refine G_p 13 rfl (by decide +kernel) (Y_re h) ?_
                intro v h
                refine G_p 14 rfl (by decide +kernel) (Y_su h) ?_
                intro v h
                refine G_p 15 rfl (by decide +kernel) (Y_as h) ?_
                intro v h
                refine G_done (by decide +kernel) ?_
                refine E_n ?_
                refine wp_seq ?_
                refine C_join (fun (k : Value → Value → Value → Value → Value → Value → Value → Value → M) (ρ : Nat → Value) => k (ρ 0) (ρ 2) (ρ 7) (ρ 8) (ρ 9) (ρ 10) (ρ 11) (ρ 12)) h (fun j6 J6 h => ?_) (fun ρ w h => ?_)
                · refine C_blk ?_
                  refine C_lo (fun (l : Value → Value → Value → Value → Value → Value → Value → Value → M) (ρ : Nat → Value) => l (ρ 0) (ρ 2) (ρ 7) (ρ 8) (ρ 9) (ρ 10) (ρ 11) (ρ 12)) h (fun ρ w h => h) (fun nx self7 L7 ρ w h => ?_)
                  unfold f21_b7 at h
                  refine wp_seq ?_
                  refine wp_seq ?_
                  refine L_region ?_
                  refine L_mv ?_
                  refine L_mv ?_
                  refine L_u (P_le h) ?_
                  intro v w h
                  refine L_nil ?_
                  refine E_n ?_
                  refine C_cnd h (fun h => ?_) (fun h => ?_)
                  · refine C_skip ?_
                    refine E_n ?_
                    refine C_blk ?_
                    refine L_region ?_
                    refine L_mv ?_
                    refine L_mv ?_
                    refine L_mv ?_
                    refine L_u (P_ia se43 h) ?_
                    intro v w h
                    refine L_u (P_fa fo23_0 h) ?_
                    intro v w h
                    refine L_u (P_ld sc2 h) ?_
                    intro v w h
                    refine L_u (P_ad h) ?_
                    intro v w h
                    refine L_as ?_
                    refine L_nil ?_
                    refine B_n ?_
                    refine E_n ?_
                    exact L7 _ _ h
                  · refine C_exit ?_
                    refine E_x ?_
                    refine E_x ?_
                    refine B_x ?_
                    exact J6 _ _ h
                · unfold f21_j6 at h
                  refine E_n ?_
                  refine wp_seq ?_
                  refine L_region ?_
                  refine L_mv ?_
                  refine L_u (P_nt h) ?_
                  intro v w h
                  refine L_mv ?_
                  refine L_g (t := 62) h rfl rfl (fun c h => P_mv h c) ?_
                  intro v w h
                  refine L_g (t := 62) h rfl rfl (fun c h => P_mv h c) ?_
                  intro v w h
                  refine L_g (t := 62) h rfl rfl (fun c h => P_lt h c) ?_
                  intro v w h
                  refine L_u (P_pk h) ?_
                  intro v w h
                  refine L_nil ?_
                  refine E_n ?_
                  refine C_cnd h (fun h => ?_) (fun h => ?_)
                  · refine wp_seq ?_
                    refine L_region ?_
                    refine L_mv ?_
                    refine L_as ?_
                    refine L_nil ?_
                    refine E_n ?_
                    refine L_region ?_
                    refine L_as ?_
                    refine L_nil ?_
                    refine B_n ?_
                    exact J5 _ _ h
                  · refine C_skip ?_
                    refine B_n ?_
                    exact J5 _ _ h
            · unfold f21_j5 at h
              refine E_n ?_
              refine L_region ?_
              refine L_mv ?_
              refine L_u (P_ad h) ?_
              intro v w h
              refine L_as ?_
              refine L_nil ?_
              refine E_n ?_
              exact L4 _ _ h
          · refine C_exit ?_
            refine E_x ?_
            refine E_x ?_
            refine B_x ?_
            exact J3 _ _ h
        · unfold f21_j3 at h
          refine E_n ?_
          refine wp_seq ?_
          refine wp_seq ?_
          refine L_region ?_
          refine L_mv ?_
          refine L_u (P_nt h) ?_
          intro v w h
          refine L_nil ?_
          refine E_n ?_
          refine C_cnd h (fun h => ?_) (fun h => ?_)
          · refine C_exit ?_
            refine E_x ?_
            refine B_o rfl ?_
            refine E_x ?_
            refine B_x ?_
            exact J1 _ _ h
          · refine C_skip ?_
            refine E_n ?_
            refine wp_seq ?_
            refine L_region ?_
            refine L_mv ?_
            refine L_mv ?_
            refine L_u (N_bsl h) ?_
            intro v w h
            refine L_u (N_bi rfl h) ?_
            intro v w h
            refine L_as ?_
            refine L_nil ?_
            refine E_n ?_
            refine L_region ?_
            refine L_mv ?_
            refine L_as ?_
            refine L_nil ?_
            refine B_n ?_
            refine E_n ?_
            exact L2 _ _ h
      · refine C_exit ?_
        refine E_x ?_
        refine E_x ?_
        refine B_x ?_
        exact J1 _ _ h
    · unfold f21_j1 at h
      refine E_n ?_
      refine wp_seq ?_
      refine L_region ?_
      refine L_mv ?_
      refine L_as ?_
      refine L_nil ?_
      refine E_n ?_
      refine C_ret ?_
      show bodyPost Try.prog Try.f21 (Rt Q) .ret _ _
      exact post_tmps (ts := [6]) (.inr rfl) rfl h

/- factotum/factotumlaw34.ClockMerge -/
def f6_b2 (j1 : M) (self2 : Value → Value → Value → M) (t7 t8 t9 : Value) : M :=
  lnl t7 fun t33 =>
  lt .i64 t9 t33 fun t34 =>
  cnd t34 (
    dr <|
    idv t7 fun t37 =>
    idv t9 fun t38 =>
    ia 1 t37 t38 fun t39 =>
    ld t39 fun t40 =>
    idv t8 fun t41 =>
    idv t9 fun t42 =>
    ia 1 t41 t42 fun t43 =>
    ld t43 fun t44 =>
    nei .i64 t40 t44 fun t45 =>
    cnd t45 (
      rt (.bool false)
      ) (
      ad .i64 t9 (.int .i64 1) fun t36 =>
      self2 t7 t8 t36
      )
    ) (
    j1
    )
def f6_j1 : M :=
  rt (.bool true)
def f6 (t0 t1 t2 : Value) : M :=
  cl (f7) fun t10 =>
  nt t10 fun t11 =>
  cnd t11 (
    rt (.bool false)
    ) (
    lnl t0 fun t14 =>
    mnm t14 (.int .i64 20) fun t15 =>
    sll 2 t0 none (some t15) fun t16 =>
    cl (f20 t16) fun t18 =>
    cl (f19 t18 t1 t2) fun t21 =>
    cl (f21 t16 t1 t2) fun t25 =>
    lnl t21 fun t27 =>
    lnl t25 fun t29 =>
    nei .i64 t27 t29 fun t30 =>
    cnd t30 (
      rt (.bool false)
      ) (
      jn (fun (j1 : M) =>
        lo (fun _ _ _ => bot) (f6_b2 j1) (fun l => l t21 t25 (.int .i64 0))
        ) (f6_j1)
      )
    )
theorem s6 (t0 t1 t2 : Value) (w : World) (Q : Value → World → Prop) (h : f6 t0 t1 t2 w Q) : Calls Try.prog 6 #[t0, t1, t2] w (Rt Q) := by
  refine calls_of (l := [t0, t1, t2]) Try.func6 rfl Try.ntmps6 (Nat.le_of_ble_eq_true rfl) ?_
  unfold f6 at h
  refine wp_seq ?_
  refine L_region ?_
  refine L_as ?_
  refine L_nil ?_
  refine E_n ?_
  refine wp_seq ?_
  refine wp_seq ?_
  refine L_region ?_
  refine L_u (N_cl Try.func7 rfl nn7 (fun w Q h => s7 w Q h) h) ?_
  intro v w h
  refine L_u (P_nt h) ?_
  intro v w h
  refine L_nil ?_
  refine E_n ?_
  refine C_cnd h (fun h => ?_) (fun h => ?_)
  · refine wp_seq ?_
    refine L_region ?_
    refine L_as ?_
    refine L_nil ?_
    refine E_n ?_
    refine C_ret ?_
    show bodyPost Try.prog Try.f6 (Rt Q) .ret _ _
    exact post_tmps (ts := [6]) (.inr rfl) rfl h
  · refine C_skip ?_
    refine E_n ?_
    refine wp_seq ?_
    refine L_region ?_
    refine L_mv ?_
    refine L_mv ?_
    refine L_u (P_lnl is43 h) ?_
    intro v w h
    refine L_u (P_mnm (t := 0) h) ?_
    intro v w h
    refine L_u (P_sll se43 h) ?_
    intro v w h
    refine L_as ?_
    refine L_nil ?_
    refine E_n ?_
    refine wp_seq ?_
    refine L_region ?_
    refine L_mv ?_
    refine L_u (N_cl Try.func20 rfl nn20 (fun w Q h => s20 _ w Q h) h) ?_
    intro v w h
    refine L_mv ?_
    refine L_mv ?_
    refine L_u (N_cl Try.func19 rfl nn19 (fun w Q h => s19 _ _ _ w Q h) h) ?_
    intro v w h
    refine L_mv ?_
    refine L_mv ?_
    refine L_mv ?_
    refine L_u (N_cl Try.func21 rfl nn21 (fun w Q h => s21 _ _ _ w Q h) h) ?_
    intro v w h
    refine L_as ?_
    refine L_as ?_
    refine L_nil ?_
    refine E_n ?_
    refine wp_seq ?_
    refine wp_seq ?_
    refine L_region ?_
    refine L_mv ?_
    refine L_u (P_lnl is44 h) ?_
    intro v w h
    refine L_mv ?_
    refine L_u (P_lnl is44 h) ?_
    intro v w h
    refine L_u (P_nei h) ?_
    intro v w h
    refine L_nil ?_
    refine E_n ?_
    refine C_cnd h (fun h => ?_) (fun h => ?_)
    · refine wp_seq ?_
      refine L_region ?_
      refine L_as ?_
      refine L_nil ?_
      refine E_n ?_
      refine C_ret ?_
      show bodyPost Try.prog Try.f6 (Rt Q) .ret _ _
      exact post_tmps (ts := [6]) (.inr rfl) rfl h
    · refine C_skip ?_
      refine E_n ?_
      refine wp_seq ?_
      refine wp_seq ?_
      refine L_region ?_
      refine L_as ?_
      refine L_nil ?_
      refine E_n ?_
      refine C_join (fun (k : M) (ρ : Nat → Value) => k) h (fun j1 J1 h => ?_) (fun ρ w h => ?_)
      · refine C_blk ?_
        refine C_lo (fun (l : Value → Value → Value → M) (ρ : Nat → Value) => l (ρ 7) (ρ 8) (ρ 9)) h (fun ρ w h => h) (fun nx self2 L2 ρ w h => ?_)
        unfold f6_b2 at h
        refine wp_seq ?_
        refine wp_seq ?_
        refine L_region ?_
        refine L_mv ?_
        refine L_mv ?_
        refine L_u (P_lnl is44 h) ?_
        intro v w h
        refine L_u (P_lt h) ?_
        intro v w h
        refine L_nil ?_
        refine E_n ?_
        refine C_cnd h (fun h => ?_) (fun h => ?_)
        · refine C_skip ?_
          refine E_n ?_
          refine wp_seq ?_
          refine C_blk ?_
          refine wp_seq ?_
          refine D_region (by decide +kernel) 9 rfl ?_
          replace h := dr_e h
          refine G_p 0 rfl (by decide +kernel) (Y_mv h) ?_
          intro v h
          refine G_p 1 rfl (by decide +kernel) (Y_mv h) ?_
          intro v h
          refine G_p 2 rfl (by decide +kernel) (Y_ia se44 h) ?_
          intro v h
          refine G_r _ 3 rfl (by decide +kernel) (R_ld sc2 h) ?_
          intro v h
          refine G_p 4 rfl (by decide +kernel) (Y_mv h) ?_
          intro v h
          refine G_p 5 rfl (by decide +kernel) (Y_mv h) ?_
          intro v h
          refine G_p 6 rfl (by decide +kernel) (Y_ia se44 h) ?_
          intro v h
          refine G_r _ 7 rfl (by decide +kernel) (R_ld sc2 h) ?_
          intro v h
          refine G_p 8 rfl (by decide +kernel) (Y_nei h) ?_
          intro v h
          refine G_done (by decide +kernel) ?_
          refine E_n ?_
          refine C_cnd h (fun h => ?_) (fun h => ?_)
          · refine wp_seq ?_
            refine L_region ?_
            refine L_as ?_
            refine L_nil ?_
            refine E_n ?_
            refine C_ret ?_
            show bodyPost Try.prog Try.f6 (Rt Q) .ret _ _
            exact post_tmps (ts := [6]) (.inr rfl) rfl h
          · refine C_skip ?_
            refine B_n ?_
            refine E_n ?_
            refine L_region ?_
            refine L_mv ?_
            refine L_u (P_ad h) ?_
            intro v w h
            refine L_as ?_
            refine L_nil ?_
            refine E_n ?_
            exact L2 _ _ h
        · refine C_exit ?_
          refine E_x ?_
          refine E_x ?_
          refine B_x ?_
          exact J1 _ _ h
      · unfold f6_j1 at h
        refine E_n ?_
        refine wp_seq ?_
        refine L_region ?_
        refine L_as ?_
        refine L_nil ?_
        refine E_n ?_
        refine C_ret ?_
        show bodyPost Try.prog Try.f6 (Rt Q) .ret _ _
        exact post_tmps (ts := [6]) (.inr rfl) rfl h

/- (factotum/clock.hands).Less -/
def f51 (t0 t1 t2 : Value) : M :=
  dr <|
  idv t0 fun t7 =>
  idv t1 fun t8 =>
  ia 3 t7 t8 fun t9 =>
  fa 2 t9 fun t10 =>
  ld t10 fun t11 =>
  idv t0 fun t12 =>
  idv t2 fun t13 =>
  ia 3 t12 t13 fun t14 =>
  fa 2 t14 fun t15 =>
  ld t15 fun t16 =>
  lt .i64 t11 t16 fun t17 =>
  idv t17 fun t6 =>
  rt t6
theorem s51 (t0 t1 t2 : Value) (w : World) (Q : Value → World → Prop) (h : f51 t0 t1 t2 w Q) : Calls Try.prog 51 #[t0, t1, t2] w (Rt Q) := by
  refine calls_of (l := [t0, t1, t2]) Try.func51 rfl Try.ntmps51 (Nat.le_of_ble_eq_true rfl) ?_
  unfold f51 at h
  refine wp_seq ?_
  refine L_region ?_
  refine L_as ?_
  refine L_nil ?_
  refine E_n ?_
  refine wp_seq ?_
  refine D_region (by decide +kernel) 12 rfl ?_
  replace h := dr_e h
  refine G_p 0 rfl (by decide +kernel) (Y_mv h) ?_
  intro v h
  refine G_p 1 rfl (by decide +kernel) (Y_mv h) ?_
  intro v h
  refine G_p 2 rfl (by decide +kernel) (Y_ia se56 h) ?_
  intro v h
  refine G_p 3 rfl (by decide +kernel) (Y_fa fo58_1 h) ?_
  intro v h
  refine G_r _ 4 rfl (by decide +kernel) (R_ld sc2 h) ?_
  intro v h
  refine G_p 5 rfl (by decide +kernel) (Y_mv h) ?_
  intro v h
  refine G_p 6 rfl (by decide +kernel) (Y_mv h) ?_
  intro v h
  refine G_p 7 rfl (by decide +kernel) (Y_ia se56 h) ?_
  intro v h
  refine G_p 8 rfl (by decide +kernel) (Y_fa fo58_1 h) ?_
  intro v h
  refine G_r _ 9 rfl (by decide +kernel) (R_ld sc2 h) ?_
  intro v h
  refine G_p 10 rfl (by decide +kernel) (Y_lt h) ?_
  intro v h
  refine G_p 11 rfl (by decide +kernel) (Y_as h) ?_
  intro v h
  refine G_done (by decide +kernel) ?_
  refine E_n ?_
  refine C_ret ?_
  show bodyPost Try.prog Try.f51 (Rt Q) .ret _ _
  exact post_tmps (ts := [6]) (.inr rfl) rfl h

/- (factotum/clock.hands).Swap -/
def f52 (t0 t1 t2 : Value) : M :=
  dr <|
  idv t0 fun t6 =>
  idv t1 fun t7 =>
  idv t0 fun t8 =>
  idv t2 fun t9 =>
  idv t0 fun t10 =>
  idv t2 fun t11 =>
  ia 3 t10 t11 fun t12 =>
  ldn 3 t12 fun t13 =>
  idv t0 fun t14 =>
  idv t1 fun t15 =>
  ia 3 t14 t15 fun t16 =>
  ldn 3 t16 fun t17 =>
  ia 3 t6 t7 fun t18 =>
  stn 3 t18 t13 <|
  ia 3 t8 t9 fun t19 =>
  stn 3 t19 t17 <|
  rt (.tuple #[])
theorem s52 (t0 t1 t2 : Value) (w : World) (Q : Value → World → Prop) (h : f52 t0 t1 t2 w Q) : Calls Try.prog 52 #[t0, t1, t2] w (Rt Q) := by
  refine calls_of (l := [t0, t1, t2]) Try.func52 rfl Try.ntmps52 (Nat.le_of_ble_eq_true rfl) ?_
  unfold f52 at h
  refine D_region (by decide +kernel) 16 rfl ?_
  replace h := dr_e h
  refine G_p 0 rfl (by decide +kernel) (Y_mv h) ?_
  intro v h
  refine G_p 1 rfl (by decide +kernel) (Y_mv h) ?_
  intro v h
  refine G_p 2 rfl (by decide +kernel) (Y_mv h) ?_
  intro v h
  refine G_p 3 rfl (by decide +kernel) (Y_mv h) ?_
  intro v h
  refine G_p 4 rfl (by decide +kernel) (Y_mv h) ?_
  intro v h
  refine G_p 5 rfl (by decide +kernel) (Y_mv h) ?_
  intro v h
  refine G_p 6 rfl (by decide +kernel) (Y_ia se56 h) ?_
  intro v h
  refine G_r _ 7 rfl (by decide +kernel) (R_ldn ag58 h) ?_
  intro v h
  refine G_p 8 rfl (by decide +kernel) (Y_mv h) ?_
  intro v h
  refine G_p 9 rfl (by decide +kernel) (Y_mv h) ?_
  intro v h
  refine G_p 10 rfl (by decide +kernel) (Y_ia se56 h) ?_
  intro v h
  refine G_r _ 11 rfl (by decide +kernel) (R_ldn ag58 h) ?_
  intro v h
  refine G_p 12 rfl (by decide +kernel) (Y_ia se56 h) ?_
  intro v h
  refine G_e 13 rfl (by decide +kernel) (P_stn ag58 h ?_)
  intro w h
  refine ⟨keepF_dep [11] (by decide +kernel) rfl (keepF_dep [7] (by decide +kernel) rfl keepF_nil), ?_⟩
  refine G_p 14 rfl (by decide +kernel) (Y_ia se56 h) ?_
  intro v h
  refine G_e 15 rfl (by decide +kernel) (P_stn ag58 h ?_)
  intro w h
  refine ⟨keepF_dep [11] (by decide +kernel) rfl (keepF_dep [7] (by decide +kernel) rfl keepF_nil), ?_⟩
  refine G_done (by decide +kernel) ?_
  show bodyPost Try.prog Try.f52 (Rt Q) .normal _ _
  exact post_tmps (ts := []) (.inl rfl) rfl h
end Go.Proofs.Ytnckcgpmidgggaa
