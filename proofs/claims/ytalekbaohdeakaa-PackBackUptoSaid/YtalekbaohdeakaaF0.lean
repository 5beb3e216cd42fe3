/- Functions as predicate transformers, and that the machine does what they say, by program. -/
import Derived.Test.YtalekbaohdeakaaTy
set_option linter.unusedVariables false
set_option maxRecDepth 20000
set_option maxHeartbeats 4000000
namespace Go.Proofs.Ytalekbaohdeakaa
open Sh
attribute [local irreducible] wpL anyG act jn lo gdB amb kp smr nc fa ld ldn st stn ad su mu qu re lt le gt ge eqi nei bws shl shr cat eqs nes lts gts eqb neb nt pk cv al bx ex fld fldn lnl lns ia iaa ixs sls sll sla mif mnm mxm mm asrt sm smu cl cc cf ci cnd gd gdu
/- factotum/pack.wide -/
def f29 (t0 : Value) : M :=
  mxm t0 (.int .i64 1) fun t4 =>
  mnm t4 (.int .i64 8) fun t5 =>
  rt t5
theorem s29 (t0 : Value) (w : World) (Q : Value → World → Prop) (h : f29 t0 w Q) : Calls Try.prog 29 #[t0] w (Rt Q) := by
  refine calls_of (l := [t0]) Try.func29 rfl Try.ntmps29 (Nat.le_of_ble_eq_true rfl) ?_
  unfold f29 at h
  refine wp_seq ?_
  refine L_region ?_
  refine L_as ?_
  refine L_nil ?_
  refine E_n ?_
  refine wp_seq ?_
  refine L_region ?_
  refine L_mv ?_
  refine L_u (P_mxm (t := 0) h) ?_
  intro v w h
  refine L_u (P_mnm (t := 0) h) ?_
  intro v w h
  refine L_as ?_
  refine L_nil ?_
  refine E_n ?_
  refine C_ret ?_
  show bodyPost Try.prog Try.f29 (Rt Q) .ret _ _
  exact post_tmps (ts := [2]) (.inr rfl) rfl h

/- factotum/pack.Num -/
def f10_b2 (j1 : Value → M) (self2 : Value → Value → Value → M) (t0_1 t1_1 t7 : Value) : M :=
  ge .i64 t7 (.int .i64 0) fun t12 =>
  cnd t12 (
    mu .i64 (.int .i64 8) t7 fun t18 =>
    shr .u64 .i64 t1_1 t18 fun t19 =>
    cv .u8 t19 fun t20 =>
    sm Try.prog (Instr.buildSlice 22 1 #[(0, t20)]) fun t21 =>
    sm Try.prog (Builtin.append_ #[22, 22] 22 #[t0_1, t21]) fun t22 =>
    su .i64 t7 (.int .i64 1) fun t14 =>
    self2 t22 t1_1 t14
    ) (
    j1 t0_1
    )
def f10_j1 (t0_2 : Value) : M :=
  rt t0_2
def f10 (t0 t1 t2 : Value) : M :=
  cl (f29 t2) fun t9 =>
  su .i64 t9 (.int .i64 1) fun t10 =>
  jn (fun (j1 : Value → M) =>
    lo (fun _ _ _ => bot) (f10_b2 j1) (fun l => l t0 t1 t10)
    ) (f10_j1)
theorem s10 (t0 t1 t2 : Value) (w : World) (Q : Value → World → Prop) (h : f10 t0 t1 t2 w Q) : Calls Try.prog 10 #[t0, t1, t2] w (Rt Q) := by
  refine calls_of (l := [t0, t1, t2]) Try.func10 rfl Try.ntmps10 (Nat.le_of_ble_eq_true rfl) ?_
  unfold f10 at h
  refine wp_seq ?_
  refine L_region ?_
  refine L_as ?_
  refine L_nil ?_
  refine E_n ?_
  refine wp_seq ?_
  refine wp_seq ?_
  refine L_region ?_
  refine L_mv ?_
  refine L_u (N_cl Try.func29 rfl nn29 (fun w Q h => s29 _ w Q h) h) ?_
  intro v w h
  refine L_u (P_su h) ?_
  intro v w h
  refine L_as ?_
  refine L_nil ?_
  refine E_n ?_
  refine C_join (fun (k : Value → M) (ρ : Nat → Value) => k (ρ 0)) h (fun j1 J1 h => ?_) (fun ρ w h => ?_)
  · refine C_blk ?_
    refine C_lo (fun (l : Value → Value → Value → M) (ρ : Nat → Value) => l (ρ 0) (ρ 1) (ρ 7)) h (fun ρ w h => h) (fun nx self2 L2 ρ w h => ?_)
    unfold f10_b2 at h
    refine wp_seq ?_
    refine wp_seq ?_
    refine L_region ?_
    refine L_mv ?_
    refine L_u (P_ge h) ?_
    intro v w h
    refine L_nil ?_
    refine E_n ?_
    refine C_cnd h (fun h => ?_) (fun h => ?_)
    · refine C_skip ?_
      refine E_n ?_
      refine wp_seq ?_
      refine C_blk ?_
      refine L_region ?_
      refine L_mv ?_
      refine L_mv ?_
      refine L_mv ?_
      refine L_u (P_mu h) ?_
      intro v w h
      refine L_u (P_shr h) ?_
      intro v w h
      refine L_u (P_cv ai23 in5 h) ?_
      intro v w h
      refine L_u (N_bsl h) ?_
      intro v w h
      refine L_u (N_bi rfl h) ?_
      intro v w h
      refine L_as ?_
      refine L_nil ?_
      refine B_n ?_
      refine E_n ?_
      refine L_region ?_
      refine L_mv ?_
      refine L_u (P_su h) ?_
      intro v w h
      refine L_as ?_
      refine L_nil ?_
      refine E_n ?_
      exact L2 _ _ h
    · refine C_exit ?_
      refine E_x ?_
      refine E_x ?_
      refine B_x ?_
      exact J1 _ _ h
  · unfold f10_j1 at h
    refine E_n ?_
    refine wp_seq ?_
    refine L_region ?_
    refine L_mv ?_
    refine L_as ?_
    refine L_nil ?_
    refine E_n ?_
    refine C_ret ?_
    show bodyPost Try.prog Try.f10 (Rt Q) .ret _ _
    exact post_tmps (ts := [6]) (.inr rfl) rfl h

/- factotum/pack.Str -/
def f11 (t0 t1 : Value) : M :=
  lns t1 fun t7 =>
  mnm t7 (.int .i64 255) fun t8 =>
  sls t1 none (some t8) fun t9 =>
  lns t9 fun t12 =>
  cv .u8 t12 fun t13 =>
  sm Try.prog (Instr.buildSlice 22 1 #[(0, t13)]) fun t14 =>
  sm Try.prog (Builtin.append_ #[22, 22] 22 #[t0, t14]) fun t15 =>
  sm Try.prog (Builtin.append_ #[22, 9] 22 #[t15, t9]) fun t17 =>
  rt t17
theorem s11 (t0 t1 : Value) (w : World) (Q : Value → World → Prop) (h : f11 t0 t1 w Q) : Calls Try.prog 11 #[t0, t1] w (Rt Q) := by
  refine calls_of (l := [t0, t1]) Try.func11 rfl Try.ntmps11 (Nat.le_of_ble_eq_true rfl) ?_
  unfold f11 at h
  refine wp_seq ?_
  refine L_region ?_
  refine L_as ?_
  refine L_nil ?_
  refine E_n ?_
  refine wp_seq ?_
  refine L_region ?_
  refine L_mv ?_
  refine L_mv ?_
  refine L_u (P_lns st9 h) ?_
  intro v w h
  refine L_u (P_mnm (t := 0) h) ?_
  intro v w h
  refine L_u (P_sls st9 h) ?_
  intro v w h
  refine L_as ?_
  refine L_nil ?_
  refine E_n ?_
  refine wp_seq ?_
  refine L_region ?_
  refine L_mv ?_
  refine L_mv ?_
  refine L_u (P_lns st9 h) ?_
  intro v w h
  refine L_u (P_cv ai3 in5 h) ?_
  intro v w h
  refine L_u (N_bsl h) ?_
  intro v w h
  refine L_u (N_bi rfl h) ?_
  intro v w h
  refine L_mv ?_
  refine L_u (N_bi rfl h) ?_
  intro v w h
  refine L_as ?_
  refine L_nil ?_
  refine E_n ?_
  refine C_ret ?_
  show bodyPost Try.prog Try.f11 (Rt Q) .ret _ _
  exact post_tmps (ts := [4]) (.inr rfl) rfl h

/- factotum/pack.From -/
def f17 (t0 : Value) : M :=
  smr Try.prog (Instr.build 52 #[(0, t0)]) fun t4 =>
  bx 52 t4 fun t5 =>
  rt t5
theorem s17 (t0 : Value) (w : World) (Q : Value → World → Prop) (h : f17 t0 w Q) : Calls Try.prog 17 #[t0] w (Rt Q) := by
  refine calls_of (l := [t0]) Try.func17 rfl Try.ntmps17 (Nat.le_of_ble_eq_true rfl) ?_
  unfold f17 at h
  refine wp_seq ?_
  refine L_region ?_
  refine L_as ?_
  refine L_nil ?_
  refine E_n ?_
  refine wp_seq ?_
  refine L_region ?_
  refine L_mv ?_
  refine L_u (N_bld h) ?_
  intro v w h
  refine L_u (P_bx h) ?_
  intro v w h
  refine L_as ?_
  refine L_nil ?_
  refine E_n ?_
  refine C_ret ?_
  show bodyPost Try.prog Try.f17 (Rt Q) .ret _ _
  exact post_tmps (ts := [2]) (.inr rfl) rfl h

/- (*factotum/pack.Reader).take -/
def f31 (t0 t1 : Value) : M :=
  smr Try.prog (do eqGuard .eql 36 (.tmp 7) (.const (.pointer none)) t0 (.pointer none); binOp .eql 36 t0 (.pointer none)) fun t8 =>
  gd t8 false (idv t0) fun t10 =>
  gd t8 false (nc t10) fun t11 =>
  gd t8 false (fa 1 t11) fun t12 =>
  gd t8 false (ld t12) fun t13 =>
  gd t8 false (nei .i64 t13 (.int .i64 0)) fun t14 =>
  pk t8 (.bool true) t14 fun t15 =>
  cnd t15 (
    rt (.tuple #[(.string ⟨#[]⟩), (.bool false)])
    ) (
    nc t0 fun t18 =>
    fa 0 t18 fun t19 =>
    ld t19 fun t20 =>
    lns t20 fun t21 =>
    gt .i64 t1 t21 fun t22 =>
    cnd t22 (
      nc t0 fun t24 =>
      fa 1 t24 fun t25 =>
      st t25 (.int .i64 2) <|
      rt (.tuple #[(.string ⟨#[]⟩), (.bool false)])
      ) (
      nc t0 fun t27 =>
      fa 0 t27 fun t28 =>
      ld t28 fun t29 =>
      sls t29 none (some t1) fun t31 =>
      nc t0 fun t34 =>
      fa 0 t34 fun t35 =>
      ld t35 fun t36 =>
      sls t36 (some t1) none fun t38 =>
      nc t0 fun t39 =>
      fa 0 t39 fun t40 =>
      st t40 t38 <|
      rt (.tuple #[t31, (.bool true)])
      )
    )
theorem s31 (t0 t1 : Value) (w : World) (Q : Value → World → Prop) (h : f31 t0 t1 w Q) : Calls Try.prog 31 #[t0, t1] w (Rt Q) := by
  refine calls_of (l := [t0, t1]) Try.func31 rfl Try.ntmps31 (Nat.le_of_ble_eq_true rfl) ?_
  unfold f31 at h
  refine wp_seq ?_
  refine L_region ?_
  refine L_as ?_
  refine L_as ?_
  refine L_nil ?_
  refine E_n ?_
  refine wp_seq ?_
  refine wp_seq ?_
  refine L_region ?_
  refine L_mv ?_
  refine L_u (P_smr rfl h) ?_
  intro v w h
  refine L_mv ?_
  refine L_g (t := 9) h rfl rfl (fun c h => P_mv h c) ?_
  intro v w h
  refine L_g (t := 9) h rfl rfl (fun c h => P_nc h c) ?_
  intro v w h
  refine L_g (t := 9) h rfl rfl (fun c h => P_fa fo52_1 h c) ?_
  intro v w h
  refine L_g (t := 9) h rfl rfl (fun c h => P_ld sc40 h c) ?_
  intro v w h
  refine L_g (t := 9) h rfl rfl (fun c h => P_nei h c) ?_
  intro v w h
  refine L_u (P_pk h) ?_
  intro v w h
  refine L_nil ?_
  refine E_n ?_
  refine C_cnd h (fun h => ?_) (fun h => ?_)
  · refine wp_seq ?_
    refine L_region ?_
    refine L_as ?_
    refine L_as ?_
    refine L_nil ?_
    refine E_n ?_
    refine C_ret ?_
    show bodyPost Try.prog Try.f31 (Rt Q) .ret _ _
    exact post_tmps (ts := [4, 5]) (.inr rfl) rfl h
  · refine C_skip ?_
    refine E_n ?_
    refine wp_seq ?_
    refine wp_seq ?_
    refine L_region ?_
    refine L_mv ?_
    refine L_mv ?_
    refine L_u (P_nc h) ?_
    intro v w h
    refine L_u (P_fa fo52_0 h) ?_
    intro v w h
    refine L_u (P_ld sc9 h) ?_
    intro v w h
    refine L_u (P_lns st9 h) ?_
    intro v w h
    refine L_u (P_gt h) ?_
    intro v w h
    refine L_nil ?_
    refine E_n ?_
    refine C_cnd h (fun h => ?_) (fun h => ?_)
    · refine wp_seq ?_
      refine L_region ?_
      refine L_mv ?_
      refine L_u (P_nc h) ?_
      intro v w h
      refine L_u (P_fa fo52_1 h) ?_
      intro v w h
      refine L_u (P_st on40 h) ?_
      intro w h
      refine L_nil ?_
      refine E_n ?_
      refine wp_seq ?_
      refine L_region ?_
      refine L_as ?_
      refine L_as ?_
      refine L_nil ?_
      refine E_n ?_
      refine C_ret ?_
      show bodyPost Try.prog Try.f31 (Rt Q) .ret _ _
      exact post_tmps (ts := [4, 5]) (.inr rfl) rfl h
    · refine C_skip ?_
      refine E_n ?_
      refine wp_seq ?_
      refine L_region ?_
      refine L_mv ?_
      refine L_u (P_nc h) ?_
      intro v w h
      refine L_u (P_fa fo52_0 h) ?_
      intro v w h
      refine L_u (P_ld sc9 h) ?_
      intro v w h
      refine L_mv ?_
      refine L_u (P_sls st9 h) ?_
      intro v w h
      refine L_as ?_
      refine L_nil ?_
      refine E_n ?_
      refine wp_seq ?_
      refine L_region ?_
      refine L_mv ?_
      refine L_mv ?_
      refine L_u (P_nc h) ?_
      intro v w h
      refine L_u (P_fa fo52_0 h) ?_
      intro v w h
      refine L_u (P_ld sc9 h) ?_
      intro v w h
      refine L_mv ?_
      refine L_u (P_sls st9 h) ?_
      intro v w h
      refine L_u (P_nc h) ?_
      intro v w h
      refine L_u (P_fa fo52_0 h) ?_
      intro v w h
      refine L_u (P_st on9 h) ?_
      intro w h
      refine L_nil ?_
      refine E_n ?_
      refine wp_seq ?_
      refine L_region ?_
      refine L_mv ?_
      refine L_as ?_
      refine L_as ?_
      refine L_nil ?_
      refine E_n ?_
      refine C_ret ?_
      show bodyPost Try.prog Try.f31 (Rt Q) .ret _ _
      exact post_tmps (ts := [4, 5]) (.inr rfl) rfl h

/- (*factotum/pack.Reader).Num -/
def f18_b2 (j1 : Value → M) (self2 : Value → Value → Value → Value → M) (t7 t18_1 t19_1 t20 : Value) : M :=
  lt .i64 t20 t19_1 fun t21 =>
  cnd t21 (
    ia 1 t18_1 t20 fun t22 =>
    ld t22 fun t23 =>
    shl .u64 .u64 t7 (.int .u64 8) fun t25 =>
    cv .u64 t23 fun t27 =>
    bws .or .u64 t25 t27 fun t28 =>
    ad .i64 t20 (.int .i64 1) fun t29 =>
    self2 t28 t18_1 t19_1 t29
    ) (
    j1 t7
    )
def f18_j1 (t7_1 : Value) : M :=
  rt t7_1
def f18 (t0 t1 : Value) : M :=
  cl (f29 t1) fun t13 =>
  cl (f31 t0 t13) fun t14 =>
  ex 0 t14 fun t15 =>
  ex 1 t14 fun t16 =>
  sm Try.prog (convert 9 22 t15) fun t18 =>
  lnl t18 fun t19 =>
  jn (fun (j1 : Value → M) =>
    lo (fun _ _ _ _ => bot) (f18_b2 j1) (fun l => l (.int .u64 0) t18 t19 (.int .i64 0))
    ) (f18_j1)
theorem s18 (t0 t1 : Value) (w : World) (Q : Value → World → Prop) (h : f18 t0 t1 w Q) : Calls Try.prog 18 #[t0, t1] w (Rt Q) := by
  refine calls_of (l := [t0, t1]) Try.func18 rfl Try.ntmps18 (Nat.le_of_ble_eq_true rfl) ?_
  unfold f18 at h
  refine wp_seq ?_
  refine L_region ?_
  refine L_as ?_
  refine L_nil ?_
  refine E_n ?_
  refine wp_seq ?_
  refine L_region ?_
  refine L_mv ?_
  refine L_mv ?_
  refine L_u (N_cl Try.func29 rfl nn29 (fun w Q h => s29 _ w Q h) h) ?_
  intro v w h
  refine L_u (N_cl Try.func31 rfl nn31 (fun w Q h => s31 _ _ w Q h) h) ?_
  intro v w h
  refine L_mv ?_
  refine L_u (P_ex h) ?_
  intro v w h
  refine L_u (P_ex h) ?_
  intro v w h
  refine L_as ?_
  refine L_as ?_
  refine L_nil ?_
  refine E_n ?_
  refine wp_seq ?_
  refine L_region ?_
  refine L_as ?_
  refine L_nil ?_
  refine E_n ?_
  refine wp_seq ?_
  refine wp_seq ?_
  refine L_region ?_
  refine L_mv ?_
  refine L_u (P_sm rfl h) ?_
  intro v w h
  refine L_u (P_lnl is22 h) ?_
  intro v w h
  refine L_mv ?_
  refine L_nil ?_
  refine E_n ?_
  refine C_join (fun (k : Value → M) (ρ : Nat → Value) => k (ρ 7)) h (fun j1 J1 h => ?_) (fun ρ w h => ?_)
  · refine C_blk ?_
    refine C_lo (fun (l : Value → Value → Value → Value → M) (ρ : Nat → Value) => l (ρ 7) (ρ 18) (ρ 19) (ρ 20)) h (fun ρ w h => h) (fun nx self2 L2 ρ w h => ?_)
    unfold f18_b2 at h
    refine wp_seq ?_
    refine L_region ?_
    refine L_u (P_lt h) ?_
    intro v w h
    refine L_nil ?_
    refine E_n ?_
    refine wp_seq ?_
    refine C_cnd h (fun h => ?_) (fun h => ?_)
    · refine C_skip ?_
      refine E_n ?_
      refine wp_seq ?_
      refine C_blk ?_
      refine wp_seq ?_
      refine L_region ?_
      refine L_u (P_ia se22 h) ?_
      intro v w h
      refine L_u (P_ld sc5 h) ?_
      intro v w h
      refine L_as ?_
      refine L_nil ?_
      refine E_n ?_
      refine L_region ?_
      refine L_mv ?_
      refine L_u (P_shl h) ?_
      intro v w h
      refine L_mv ?_
      refine L_u (P_cv ai5 in23 h) ?_
      intro v w h
      refine L_u (P_bits rfl h) ?_
      intro v w h
      refine L_as ?_
      refine L_nil ?_
      refine B_n ?_
      refine E_n ?_
      refine L_region ?_
      refine L_u (P_ad h) ?_
      intro v w h
      refine L_mv ?_
      refine L_nil ?_
      refine E_n ?_
      exact L2 _ _ h
    · refine C_exit ?_
      refine E_x ?_
      refine E_x ?_
      refine B_x ?_
      exact J1 _ _ h
  · unfold f18_j1 at h
    refine E_n ?_
    refine wp_seq ?_
    refine L_region ?_
    refine L_mv ?_
    refine L_as ?_
    refine L_nil ?_
    refine E_n ?_
    refine C_ret ?_
    show bodyPost Try.prog Try.f18 (Rt Q) .ret _ _
    exact post_tmps (ts := [4]) (.inr rfl) rfl h

/- (*factotum/pack.Reader).Str -/
def f19_j1 (t6 : Value) : M :=
  rt t6
def f19 (t0 t1 : Value) : M :=
  smr Try.prog (do eqGuard .eql 36 (.tmp 8) (.const (.pointer none)) t0 (.pointer none); binOp .eql 36 t0 (.pointer none)) fun t9 =>
  gd t9 false (idv t0) fun t11 =>
  gd t9 false (nc t11) fun t12 =>
  gd t9 false (fa 1 t12) fun t13 =>
  gd t9 false (ld t13) fun t14 =>
  gd t9 false (nei .i64 t14 (.int .i64 0)) fun t15 =>
  pk t9 (.bool true) t15 fun t16 =>
  cnd t16 (
    rt (.string ⟨#[]⟩)
    ) (
    nc t0 fun t18 =>
    fa 0 t18 fun t19 =>
    ld t19 fun t20 =>
    cl (f31 t0 (.int .i64 1)) fun t23 =>
    ex 0 t23 fun t24 =>
    ex 1 t23 fun t25 =>
    nt t25 fun t28 =>
    cnd t28 (
      rt (.string ⟨#[]⟩)
      ) (
      ixs t24 (.int .i64 0) fun t31 =>
      cv .i64 t31 fun t32 =>
      gt .i64 t32 t1 fun t34 =>
      cnd t34 (
        nc t0 fun t38 =>
        fa 0 t38 fun t39 =>
        st t39 t20 <|
        nc t0 fun t40 =>
        fa 1 t40 fun t41 =>
        st t41 (.int .i64 3) <|
        rt (.string ⟨#[]⟩)
        ) (
        ixs t24 (.int .i64 0) fun t45 =>
        cv .i64 t45 fun t46 =>
        cl (f31 t0 t46) fun t47 =>
        ex 0 t47 fun t48 =>
        ex 1 t47 fun t49 =>
        nt t49 fun t51 =>
        jn (fun (j1 : Value → M) =>
          cnd t51 (
            nc t0 fun t54 =>
            fa 0 t54 fun t55 =>
            st t55 t20 <|
            j1 t48
            ) (
            j1 t48
            )
          ) (f19_j1)
        )
      )
    )
theorem s19 (t0 t1 : Value) (w : World) (Q : Value → World → Prop) (h : f19 t0 t1 w Q) : Calls Try.prog 19 #[t0, t1] w (Rt Q) := by
  refine calls_of (l := [t0, t1]) Try.func19 rfl Try.ntmps19 (Nat.le_of_ble_eq_true rfl) ?_
  unfold f19 at h
  refine wp_seq ?_
  refine L_region ?_
  refine L_as ?_
  refine L_nil ?_
  refine E_n ?_
  refine wp_seq ?_
  refine wp_seq ?_
  refine L_region ?_
  refine L_mv ?_
  refine L_u (P_smr rfl h) ?_
  intro v w h
  refine L_mv ?_
  refine L_g (t := 10) h rfl rfl (fun c h => P_mv h c) ?_
  intro v w h
  refine L_g (t := 10) h rfl rfl (fun c h => P_nc h c) ?_
  intro v w h
  refine L_g (t := 10) h rfl rfl (fun c h => P_fa fo52_1 h c) ?_
  intro v w h
  refine L_g (t := 10) h rfl rfl (fun c h => P_ld sc40 h c) ?_
  intro v w h
  refine L_g (t := 10) h rfl rfl (fun c h => P_nei h c) ?_
  intro v w h
  refine L_u (P_pk h) ?_
  intro v w h
  refine L_nil ?_
  refine E_n ?_
  refine C_cnd h (fun h => ?_) (fun h => ?_)
  · refine wp_seq ?_
    refine L_region ?_
    refine L_as ?_
    refine L_nil ?_
    refine E_n ?_
    refine C_ret ?_
    show bodyPost Try.prog Try.f19 (Rt Q) .ret _ _
    exact post_tmps (ts := [4]) (.inr rfl) rfl h
  · refine C_skip ?_
    refine E_n ?_
    refine wp_seq ?_
    refine L_region ?_
    refine L_mv ?_
    refine L_u (P_nc h) ?_
    intro v w h
    refine L_u (P_fa fo52_0 h) ?_
    intro v w h
    refine L_u (P_ld sc9 h) ?_
    intro v w h
    refine L_as ?_
    refine L_nil ?_
    refine E_n ?_
    refine wp_seq ?_
    refine L_region ?_
    refine L_mv ?_
    refine L_u (N_cl Try.func31 rfl nn31 (fun w Q h => s31 _ _ w Q h) h) ?_
    intro v w h
    refine L_mv ?_
    refine L_u (P_ex h) ?_
    intro v w h
    refine L_u (P_ex h) ?_
    intro v w h
    refine L_as ?_
    refine L_as ?_
    refine L_nil ?_
    refine E_n ?_
    refine wp_seq ?_
    refine C_blk ?_
    refine wp_seq ?_
    refine L_region ?_
    refine L_mv ?_
    refine L_u (P_nt h) ?_
    intro v w h
    refine L_as ?_
    refine L_nil ?_
    refine E_n ?_
    refine C_cnd h (fun h => ?_) (fun h => ?_)
    · refine wp_seq ?_
      refine L_region ?_
      refine L_as ?_
      refine L_nil ?_
      refine E_n ?_
      refine C_ret ?_
      show bodyPost Try.prog Try.f19 (Rt Q) .ret _ _
      exact post_tmps (ts := [4]) (.inr rfl) rfl h
    · refine wp_seq ?_
      refine L_region ?_
      refine L_mv ?_
      refine L_u (P_ixs st9 h) ?_
      intro v w h
      refine L_u (P_cv ai5 in3 h) ?_
      intro v w h
      refine L_mv ?_
      refine L_u (P_gt h) ?_
      intro v w h
      refine L_as ?_
      refine L_nil ?_
      refine E_n ?_
      refine C_cnd h (fun h => ?_) (fun h => ?_)
      · refine wp_seq ?_
        refine L_region ?_
        refine L_mv ?_
        refine L_mv ?_
        refine L_mv ?_
        refine L_u (P_nc h) ?_
        intro v w h
        refine L_u (P_fa fo52_0 h) ?_
        intro v w h
        refine L_u (P_st on9 h) ?_
        intro w h
        refine L_u (P_nc h) ?_
        intro v w h
        refine L_u (P_fa fo52_1 h) ?_
        intro v w h
        refine L_u (P_st on40 h) ?_
        intro w h
        refine L_nil ?_
        refine E_n ?_
        refine wp_seq ?_
        refine L_region ?_
        refine L_as ?_
        refine L_nil ?_
        refine E_n ?_
        refine C_ret ?_
        show bodyPost Try.prog Try.f19 (Rt Q) .ret _ _
        exact post_tmps (ts := [4]) (.inr rfl) rfl h
      · refine C_skip ?_
        refine B_n ?_
        refine E_n ?_
        refine wp_seq ?_
        refine wp_seq ?_
        refine L_region ?_
        refine L_mv ?_
        refine L_mv ?_
        refine L_u (P_ixs st9 h) ?_
        intro v w h
        refine L_u (P_cv ai5 in3 h) ?_
        intro v w h
        refine L_u (N_cl Try.func31 rfl nn31 (fun w Q h => s31 _ _ w Q h) h) ?_
        intro v w h
        refine L_mv ?_
        refine L_u (P_ex h) ?_
        intro v w h
        refine L_u (P_ex h) ?_
        intro v w h
        refine L_as ?_
        refine L_as ?_
        refine L_nil ?_
        refine E_n ?_
        refine wp_seq ?_
        refine L_region ?_
        refine L_mv ?_
        refine L_u (P_nt h) ?_
        intro v w h
        refine L_nil ?_
        refine E_n ?_
        refine C_join (fun (k : Value → M) (ρ : Nat → Value) => k (ρ 6)) h (fun j1 J1 h => ?_) (fun ρ w h => ?_)
        · refine C_cnd h (fun h => ?_) (fun h => ?_)
          · refine L_region ?_
            refine L_mv ?_
            refine L_mv ?_
            refine L_u (P_nc h) ?_
            intro v w h
            refine L_u (P_fa fo52_0 h) ?_
            intro v w h
            refine L_u (P_st on9 h) ?_
            intro w h
            refine L_nil ?_
            exact J1 _ _ h
          · refine C_skip ?_
            exact J1 _ _ h
        · unfold f19_j1 at h
          refine E_n ?_
          refine wp_seq ?_
          refine L_region ?_
          refine L_mv ?_
          refine L_as ?_
          refine L_nil ?_
          refine E_n ?_
          refine C_ret ?_
          show bodyPost Try.prog Try.f19 (Rt Q) .ret _ _
          exact post_tmps (ts := [4]) (.inr rfl) rfl h

/- (*factotum/pack.Reader).Err -/
def f21 (t0 : Value) : M :=
  smr Try.prog (do eqGuard .eql 36 (.tmp 3) (.const (.pointer none)) t0 (.pointer none); binOp .eql 36 t0 (.pointer none)) fun t4 =>
  cnd t4 (
    rt (.int .i64 1)
    ) (
    nc t0 fun t6 =>
    fa 1 t6 fun t7 =>
    ld t7 fun t8 =>
    rt t8
    )
theorem s21 (t0 : Value) (w : World) (Q : Value → World → Prop) (h : f21 t0 w Q) : Calls Try.prog 21 #[t0] w (Rt Q) := by
  refine calls_of (l := [t0]) Try.func21 rfl Try.ntmps21 (Nat.le_of_ble_eq_true rfl) ?_
  unfold f21 at h
  refine wp_seq ?_
  refine L_region ?_
  refine L_as ?_
  refine L_nil ?_
  refine E_n ?_
  refine wp_seq ?_
  refine wp_seq ?_
  refine L_region ?_
  refine L_mv ?_
  refine L_u (P_smr rfl h) ?_
  intro v w h
  refine L_nil ?_
  refine E_n ?_
  refine C_cnd h (fun h => ?_) (fun h => ?_)
  · refine wp_seq ?_
    refine L_region ?_
    refine L_as ?_
    refine L_nil ?_
    refine E_n ?_
    refine C_ret ?_
    show bodyPost Try.prog Try.f21 (Rt Q) .ret _ _
    exact post_tmps (ts := [2]) (.inr rfl) rfl h
  · refine C_skip ?_
    refine E_n ?_
    refine wp_seq ?_
    refine L_region ?_
    refine L_mv ?_
    refine L_u (P_nc h) ?_
    intro v w h
    refine L_u (P_fa fo52_1 h) ?_
    intro v w h
    refine L_u (P_ld sc40 h) ?_
    intro v w h
    refine L_as ?_
    refine L_nil ?_
    refine E_n ?_
    refine C_ret ?_
    show bodyPost Try.prog Try.f21 (Rt Q) .ret _ _
    exact post_tmps (ts := [2]) (.inr rfl) rfl h

/- (*factotum/pack.Reader).Done -/
def f22 (t0 : Value) : M :=
  smr Try.prog (do eqGuard .neq 36 (.tmp 3) (.const (.pointer none)) t0 (.pointer none); binOp .neq 36 t0 (.pointer none)) fun t4 =>
  gd t4 true (idv t0) fun t6 =>
  gd t4 true (nc t6) fun t7 =>
  gd t4 true (fa 1 t7) fun t8 =>
  gd t4 true (ld t8) fun t9 =>
  gd t4 true (eqi .i64 t9 (.int .i64 0)) fun t10 =>
  pk t4 t10 (.bool false) fun t11 =>
  gd t11 true (idv t0) fun t13 =>
  gd t11 true (nc t13) fun t14 =>
  gd t11 true (fa 0 t14) fun t15 =>
  gd t11 true (ld t15) fun t16 =>
  gd t11 true (nes t16 (.string ⟨#[]⟩)) fun t17 =>
  pk t11 t17 (.bool false) fun t18 =>
  cnd t18 (
    rt (.int .i64 5)
    ) (
    cl (f21 t0) fun t20 =>
    rt t20
    )
theorem s22 (t0 : Value) (w : World) (Q : Value → World → Prop) (h : f22 t0 w Q) : Calls Try.prog 22 #[t0] w (Rt Q) := by
  refine calls_of (l := [t0]) Try.func22 rfl Try.ntmps22 (Nat.le_of_ble_eq_true rfl) ?_
  unfold f22 at h
  refine wp_seq ?_
  refine L_region ?_
  refine L_as ?_
  refine L_nil ?_
  refine E_n ?_
  refine wp_seq ?_
  refine wp_seq ?_
  refine L_region ?_
  refine L_mv ?_
  refine L_u (P_smr rfl h) ?_
  intro v w h
  refine L_mv ?_
  refine L_g (t := 5) h rfl rfl (fun c h => P_mv h c) ?_
  intro v w h
  refine L_g (t := 5) h rfl rfl (fun c h => P_nc h c) ?_
  intro v w h
  refine L_g (t := 5) h rfl rfl (fun c h => P_fa fo52_1 h c) ?_
  intro v w h
  refine L_g (t := 5) h rfl rfl (fun c h => P_ld sc40 h c) ?_
  intro v w h
  refine L_g (t := 5) h rfl rfl (fun c h => P_eqi h c) ?_
  intro v w h
  refine L_u (P_pk h) ?_
  intro v w h
  refine L_mv ?_
  refine L_g (t := 12) h rfl rfl (fun c h => P_mv h c) ?_
  intro v w h
  refine L_g (t := 12) h rfl rfl (fun c h => P_nc h c) ?_
  intro v w h
  refine L_g (t := 12) h rfl rfl (fun c h => P_fa fo52_0 h c) ?_
  intro v w h
  refine L_g (t := 12) h rfl rfl (fun c h => P_ld sc9 h c) ?_
  intro v w h
  refine L_g (t := 12) h rfl rfl (fun c h => P_nes h c) ?_
  intro v w h
  refine L_u (P_pk h) ?_
  intro v w h
  refine L_nil ?_
  refine E_n ?_
  refine C_cnd h (fun h => ?_) (fun h => ?_)
  · refine wp_seq ?_
    refine L_region ?_
    refine L_as ?_
    refine L_nil ?_
    refine E_n ?_
    refine C_ret ?_
    show bodyPost Try.prog Try.f22 (Rt Q) .ret _ _
    exact post_tmps (ts := [2]) (.inr rfl) rfl h
  · refine C_skip ?_
    refine E_n ?_
    refine wp_seq ?_
    refine L_region ?_
    refine L_mv ?_
    refine L_u (N_cl Try.func21 rfl nn21 (fun w Q h => s21 _ w Q h) h) ?_
    intro v w h
    refine L_as ?_
    refine L_nil ?_
    refine E_n ?_
    refine C_ret ?_
    show bodyPost Try.prog Try.f22 (Rt Q) .ret _ _
    exact post_tmps (ts := [2]) (.inr rfl) rfl h

/- factotum/factotumlaw01.lives -/
def f9 : M :=
  cl (f17 (.string ⟨#[1, 2, 2, 97, 98]⟩)) fun t2 =>
  cl (f10 (.slice none 0 0) (.int .u64 258) (.int .i64 2)) fun t3 =>
  smr Try.prog (convert 22 9 t3) fun t4 =>
  eqs t4 (.string ⟨#[1, 2]⟩) fun t5 =>
  gd t5 true (cl (f11 (.slice none 0 0) (.string ⟨#[97, 98]⟩))) fun t7 =>
  gd t5 true (smr Try.prog (convert 22 9 t7)) fun t8 =>
  gd t5 true (eqs t8 (.string ⟨#[2, 97, 98]⟩)) fun t9 =>
  pk t5 t9 (.bool false) fun t10 =>
  gd t10 true (idv t2) fun t12 =>
  gd t10 true (smr Try.prog (do eqGuard .neq 36 (.tmp 12) (.const (.pointer none)) t12 (.pointer none); binOp .neq 36 t12 (.pointer none))) fun t13 =>
  pk t10 t13 (.bool false) fun t14 =>
  gd t14 true (idv t2) fun t16 =>
  gd t14 true (cl (f18 t16 (.int .i64 2))) fun t17 =>
  gd t14 true (eqi .u64 t17 (.int .u64 258)) fun t18 =>
  pk t14 t18 (.bool false) fun t19 =>
  gd t19 true (idv t2) fun t21 =>
  gd t19 true (cl (f19 t21 (.int .i64 9))) fun t22 =>
  gd t19 true (eqs t22 (.string ⟨#[97, 98]⟩)) fun t23 =>
  pk t19 t23 (.bool false) fun t24 =>
  gd t24 true (idv t2) fun t26 =>
  gd t24 true (cl (f22 t26)) fun t27 =>
  gd t24 true (eqi .i64 t27 (.int .i64 0)) fun t28 =>
  pk t24 t28 (.bool false) fun t29 =>
  rt t29
theorem s9 (w : World) (Q : Value → World → Prop) (h : f9 w Q) : Calls Try.prog 9 #[] w (Rt Q) := by
  refine calls_of (l := []) Try.func9 rfl Try.ntmps9 (Nat.le_of_ble_eq_true rfl) ?_
  unfold f9 at h
  refine wp_seq ?_
  refine L_region ?_
  refine L_as ?_
  refine L_nil ?_
  refine E_n ?_
  refine wp_seq ?_
  refine L_region ?_
  refine L_u (N_cl Try.func17 rfl nn17 (fun w Q h => s17 _ w Q h) h) ?_
  intro v w h
  refine L_as ?_
  refine L_nil ?_
  refine E_n ?_
  refine wp_seq ?_
  refine L_region ?_
  refine L_u (N_cl Try.func10 rfl nn10 (fun w Q h => s10 _ _ _ w Q h) h) ?_
  intro v w h
  refine L_u (P_smr rfl h) ?_
  intro v w h
  refine L_u (P_eqs h) ?_
  intro v w h
  refine L_mv ?_
  refine L_g (t := 6) h rfl rfl (fun c h => N_cl Try.func11 rfl nn11 (fun w Q h => s11 _ _ w Q h) h c) ?_
  intro v w h
  refine L_g (t := 6) h rfl rfl (fun c h => P_smr rfl h c) ?_
  intro v w h
  refine L_g (t := 6) h rfl rfl (fun c h => P_eqs h c) ?_
  intro v w h
  refine L_u (P_pk h) ?_
  intro v w h
  refine L_mv ?_
  refine L_g (t := 11) h rfl rfl (fun c h => P_mv h c) ?_
  intro v w h
  refine L_g (t := 11) h rfl rfl (fun c h => P_smr rfl h c) ?_
  intro v w h
  refine L_u (P_pk h) ?_
  intro v w h
  refine L_mv ?_
  refine L_g (t := 15) h rfl rfl (fun c h => P_mv h c) ?_
  intro v w h
  refine L_g (t := 15) h rfl rfl (fun c h => N_cl Try.func18 rfl nn18 (fun w Q h => s18 _ _ w Q h) h c) ?_
  intro v w h
  refine L_g (t := 15) h rfl rfl (fun c h => P_eqi h c) ?_
  intro v w h
  refine L_u (P_pk h) ?_
  intro v w h
  refine L_mv ?_
  refine L_g (t := 20) h rfl rfl (fun c h => P_mv h c) ?_
  intro v w h
  refine L_g (t := 20) h rfl rfl (fun c h => N_cl Try.func19 rfl nn19 (fun w Q h => s19 _ _ w Q h) h c) ?_
  intro v w h
  refine L_g (t := 20) h rfl rfl (fun c h => P_eqs h c) ?_
  intro v w h
  refine L_u (P_pk h) ?_
  intro v w h
  refine L_mv ?_
  refine L_g (t := 25) h rfl rfl (fun c h => P_mv h c) ?_
  intro v w h
  refine L_g (t := 25) h rfl rfl (fun c h => N_cl Try.func22 rfl nn22 (fun w Q h => s22 _ w Q h) h c) ?_
  intro v w h
  refine L_g (t := 25) h rfl rfl (fun c h => P_eqi h c) ?_
  intro v w h
  refine L_u (P_pk h) ?_
  intro v w h
  refine L_as ?_
  refine L_nil ?_
  refine E_n ?_
  refine C_ret ?_
  show bodyPost Try.prog Try.f9 (Rt Q) .ret _ _
  exact post_tmps (ts := [0]) (.inr rfl) rfl h

/- factotum/factotumref01.size -/
def f30 (t0 : Value) : M :=
  mxm t0 (.int .i64 1) fun t4 =>
  mnm t4 (.int .i64 8) fun t5 =>
  rt t5
theorem s30 (t0 : Value) (w : World) (Q : Value → World → Prop) (h : f30 t0 w Q) : Calls Try.prog 30 #[t0] w (Rt Q) := by
  refine calls_of (l := [t0]) Try.func30 rfl Try.ntmps30 (Nat.le_of_ble_eq_true rfl) ?_
  unfold f30 at h
  refine wp_seq ?_
  refine L_region ?_
  refine L_as ?_
  refine L_nil ?_
  refine E_n ?_
  refine wp_seq ?_
  refine L_region ?_
  refine L_mv ?_
  refine L_u (P_mxm (t := 0) h) ?_
  intro v w h
  refine L_u (P_mnm (t := 0) h) ?_
  intro v w h
  refine L_as ?_
  refine L_nil ?_
  refine E_n ?_
  refine C_ret ?_
  show bodyPost Try.prog Try.f30 (Rt Q) .ret _ _
  exact post_tmps (ts := [2]) (.inr rfl) rfl h

/- factotum/factotumref01.Num -/
def f12_b2 (j1 : Value → M) (self2 : Value → Value → Value → M) (t0_1 t5 t6 : Value) : M :=
  ge .i64 t6 (.int .i64 0) fun t14 =>
  cnd t14 (
    re .u64 t0_1 (.int .u64 256) fun t20 =>
    cv .u8 t20 fun t21 =>
    ia 1 t5 t6 fun t22 =>
    st t22 t21 <|
    qu .u64 t0_1 (.int .u64 256) fun t24 =>
    su .i64 t6 (.int .i64 1) fun t16 =>
    self2 t24 t5 t16
    ) (
    j1 t5
    )
def f12_j1 (t5_1 : Value) : M :=
  smr Try.prog (convert 22 9 t5_1) fun t26 =>
  rt t26
def f12 (t0 t1 : Value) : M :=
  cl (f30 t1) fun t8 =>
  sm Try.prog (Instr.makeSlice 22 t8 t8) fun t10 =>
  su .i64 t8 (.int .i64 1) fun t12 =>
  jn (fun (j1 : Value → M) =>
    lo (fun _ _ _ => bot) (f12_b2 j1) (fun l => l t0 t10 t12)
    ) (f12_j1)
theorem s12 (t0 t1 : Value) (w : World) (Q : Value → World → Prop) (h : f12 t0 t1 w Q) : Calls Try.prog 12 #[t0, t1] w (Rt Q) := by
  refine calls_of (l := [t0, t1]) Try.func12 rfl Try.ntmps12 (Nat.le_of_ble_eq_true rfl) ?_
  unfold f12 at h
  refine wp_seq ?_
  refine L_region ?_
  refine L_as ?_
  refine L_nil ?_
  refine E_n ?_
  refine wp_seq ?_
  refine L_region ?_
  refine L_mv ?_
  refine L_u (N_cl Try.func30 rfl nn30 (fun w Q h => s30 _ w Q h) h) ?_
  intro v w h
  refine L_as ?_
  refine L_nil ?_
  refine E_n ?_
  refine wp_seq ?_
  refine L_region ?_
  refine L_mv ?_
  refine L_u (P_sm rfl h) ?_
  intro v w h
  refine L_as ?_
  refine L_nil ?_
  refine E_n ?_
  refine wp_seq ?_
  refine wp_seq ?_
  refine L_region ?_
  refine L_mv ?_
  refine L_u (P_su h) ?_
  intro v w h
  refine L_as ?_
  refine L_nil ?_
  refine E_n ?_
  refine C_join (fun (k : Value → M) (ρ : Nat → Value) => k (ρ 5)) h (fun j1 J1 h => ?_) (fun ρ w h => ?_)
  · refine C_blk ?_
    refine C_lo (fun (l : Value → Value → Value → M) (ρ : Nat → Value) => l (ρ 0) (ρ 5) (ρ 6)) h (fun ρ w h => h) (fun nx self2 L2 ρ w h => ?_)
    unfold f12_b2 at h
    refine wp_seq ?_
    refine wp_seq ?_
    refine L_region ?_
    refine L_mv ?_
    refine L_u (P_ge h) ?_
    intro v w h
    refine L_nil ?_
    refine E_n ?_
    refine C_cnd h (fun h => ?_) (fun h => ?_)
    · refine C_skip ?_
      refine E_n ?_
      refine wp_seq ?_
      refine C_blk ?_
      refine wp_seq ?_
      refine L_region ?_
      refine L_mv ?_
      refine L_mv ?_
      refine L_mv ?_
      refine L_u (P_re h) ?_
      intro v w h
      refine L_u (P_cv ai23 in5 h) ?_
      intro v w h
      refine L_u (P_ia se22 h) ?_
      intro v w h
      refine L_u (P_st on5 h) ?_
      intro w h
      refine L_nil ?_
      refine E_n ?_
      refine L_region ?_
      refine L_mv ?_
      refine L_u (P_qu h) ?_
      intro v w h
      refine L_as ?_
      refine L_nil ?_
      refine B_n ?_
      refine E_n ?_
      refine L_region ?_
      refine L_mv ?_
      refine L_u (P_su h) ?_
      intro v w h
      refine L_as ?_
      refine L_nil ?_
      refine E_n ?_
      exact L2 _ _ h
    · refine C_exit ?_
      refine E_x ?_
      refine E_x ?_
      refine B_x ?_
      exact J1 _ _ h
  · unfold f12_j1 at h
    refine E_n ?_
    refine wp_seq ?_
    refine L_region ?_
    refine L_mv ?_
    refine L_u (P_smr rfl h) ?_
    intro v w h
    refine L_as ?_
    refine L_nil ?_
    refine E_n ?_
    refine C_ret ?_
    show bodyPost Try.prog Try.f12 (Rt Q) .ret _ _
    exact post_tmps (ts := [4]) (.inr rfl) rfl h

/- factotum/factotumref01.Str -/
def f13 (t0 : Value) : M :=
  lns t0 fun t5 =>
  mnm t5 (.int .i64 255) fun t6 =>
  dr <|
  idv t6 fun t7 =>
  cv .u64 t7 fun t8 =>
  idv t0 fun t10 =>
  idv t6 fun t11 =>
  sls t10 none (some t11) fun t12 =>
  cl (f12 t8 (.int .i64 1)) fun t9 =>
  cat t9 t12 fun t13 =>
  idv t13 fun t2 =>
  rt t2
theorem s13 (t0 : Value) (w : World) (Q : Value → World → Prop) (h : f13 t0 w Q) : Calls Try.prog 13 #[t0] w (Rt Q) := by
  refine calls_of (l := [t0]) Try.func13 rfl Try.ntmps13 (Nat.le_of_ble_eq_true rfl) ?_
  unfold f13 at h
  refine wp_seq ?_
  refine L_region ?_
  refine L_as ?_
  refine L_nil ?_
  refine E_n ?_
  refine wp_seq ?_
  refine L_region ?_
  refine L_mv ?_
  refine L_u (P_lns st9 h) ?_
  intro v w h
  refine L_u (P_mnm (t := 0) h) ?_
  intro v w h
  refine L_as ?_
  refine L_nil ?_
  refine E_n ?_
  refine wp_seq ?_
  refine D_region (by decide +kernel) 8 rfl ?_
  replace h := dr_e h
  refine G_p 0 rfl (by decide +kernel) (Y_mv h) ?_
  intro v h
  refine G_p 1 rfl (by decide +kernel) (Y_cv ai3 in23 h) ?_
  intro v h
  refine G_p 3 rfl (by decide +kernel) (Y_mv h) ?_
  intro v h
  refine G_p 4 rfl (by decide +kernel) (Y_mv h) ?_
  intro v h
  refine G_p 5 rfl (by decide +kernel) (Y_sls st9 h) ?_
  intro v h
  refine G_e 2 rfl (by decide +kernel) (N_cl Try.func12 rfl nn12 (fun w Q h => s12 _ _ w Q h) h ?_)
  intro v w h
  refine ⟨keepF_nil, ?_⟩
  refine G_p 6 rfl (by decide +kernel) (Y_cat h) ?_
  intro v h
  refine G_p 7 rfl (by decide +kernel) (Y_as h) ?_
  intro v h
  refine G_done (by decide +kernel) ?_
  refine E_n ?_
  refine C_ret ?_
  show bodyPost Try.prog Try.f13 (Rt Q) .ret _ _
  exact post_tmps (ts := [2]) (.inr rfl) rfl h

/- factotum/pack.Fits -/
def f14 (t0 t1 : Value) : M :=
  cl (f29 t1) fun t7 =>
  mu .i64 (.int .i64 8) t7 fun t8 =>
  su .i64 t8 (.int .i64 1) fun t9 =>
  shr .u64 .i64 t0 t9 fun t10 =>
  shr .u64 .u64 t10 (.int .u64 1) fun t11 =>
  eqi .u64 t11 (.int .u64 0) fun t12 =>
  rt t12
theorem s14 (t0 t1 : Value) (w : World) (Q : Value → World → Prop) (h : f14 t0 t1 w Q) : Calls Try.prog 14 #[t0, t1] w (Rt Q) := by
  refine calls_of (l := [t0, t1]) Try.func14 rfl Try.ntmps14 (Nat.le_of_ble_eq_true rfl) ?_
  unfold f14 at h
  refine wp_seq ?_
  refine L_region ?_
  refine L_as ?_
  refine L_nil ?_
  refine E_n ?_
  refine wp_seq ?_
  refine L_region ?_
  refine L_mv ?_
  refine L_mv ?_
  refine L_u (N_cl Try.func29 rfl nn29 (fun w Q h => s29 _ w Q h) h) ?_
  intro v w h
  refine L_u (P_mu h) ?_
  intro v w h
  refine L_u (P_su h) ?_
  intro v w h
  refine L_u (P_shr h) ?_
  intro v w h
  refine L_u (P_shr h) ?_
  intro v w h
  refine L_u (P_eqi h) ?_
  intro v w h
  refine L_as ?_
  refine L_nil ?_
  refine E_n ?_
  refine C_ret ?_
  show bodyPost Try.prog Try.f14 (Rt Q) .ret _ _
  exact post_tmps (ts := [4]) (.inr rfl) rfl h

/- factotum/factotumref01.Fits -/
def f15 (t0 t1 : Value) : M :=
  cl (f30 t1) fun t6 =>
  eqi .i64 t6 (.int .i64 8) fun t7 =>
  gd t7 false (idv t0) fun t9 =>
  gd t7 false (idv t1) fun t10 =>
  gd t7 false (cl (f30 t10)) fun t11 =>
  gd t7 false (mu .i64 (.int .i64 8) t11) fun t12 =>
  gd t7 false (cv .u64 t12) fun t13 =>
  gd t7 false (shl .u64 .u64 (.int .u64 1) t13) fun t14 =>
  gd t7 false (lt .u64 t9 t14) fun t15 =>
  pk t7 (.bool true) t15 fun t16 =>
  rt t16
theorem s15 (t0 t1 : Value) (w : World) (Q : Value → World → Prop) (h : f15 t0 t1 w Q) : Calls Try.prog 15 #[t0, t1] w (Rt Q) := by
  refine calls_of (l := [t0, t1]) Try.func15 rfl Try.ntmps15 (Nat.le_of_ble_eq_true rfl) ?_
  unfold f15 at h
  refine wp_seq ?_
  refine L_region ?_
  refine L_as ?_
  refine L_nil ?_
  refine E_n ?_
  refine wp_seq ?_
  refine L_region ?_
  refine L_mv ?_
  refine L_u (N_cl Try.func30 rfl nn30 (fun w Q h => s30 _ w Q h) h) ?_
  intro v w h
  refine L_u (P_eqi h) ?_
  intro v w h
  refine L_mv ?_
  refine L_g (t := 8) h rfl rfl (fun c h => P_mv h c) ?_
  intro v w h
  refine L_g (t := 8) h rfl rfl (fun c h => P_mv h c) ?_
  intro v w h
  refine L_g (t := 8) h rfl rfl (fun c h => N_cl Try.func30 rfl nn30 (fun w Q h => s30 _ w Q h) h c) ?_
  intro v w h
  refine L_g (t := 8) h rfl rfl (fun c h => P_mu h c) ?_
  intro v w h
  refine L_g (t := 8) h rfl rfl (fun c h => P_cv ai3 in43 h c) ?_
  intro v w h
  refine L_g (t := 8) h rfl rfl (fun c h => P_shl h c) ?_
  intro v w h
  refine L_g (t := 8) h rfl rfl (fun c h => P_lt h c) ?_
  intro v w h
  refine L_u (P_pk h) ?_
  intro v w h
  refine L_as ?_
  refine L_nil ?_
  refine E_n ?_
  refine C_ret ?_
  show bodyPost Try.prog Try.f15 (Rt Q) .ret _ _
  exact post_tmps (ts := [4]) (.inr rfl) rfl h

/- factotum/factotumlaw01.PackWrites -/
def f3 (t0 t1 : Value) : M :=
  bx 25 t1 fun t3 =>
  cl (f9) fun t8 =>
  nt t8 fun t9 =>
  cnd t9 (
    rt (.bool false)
    ) (
    smr Try.prog (convert 22 9 t0) fun t11 =>
    dr <|
    idv t0 fun t12 =>
    fa 2 t3 fun t14 =>
    ld t14 fun t15 =>
    fa 1 t3 fun t16 =>
    ld t16 fun t17 =>
    idv t0 fun t19 =>
    fa 3 t3 fun t21 =>
    ld t21 fun t22 =>
    sm Try.prog (Builtin.append_ #[22, 22] 22 #[(.slice none 0 0), t12]) fun t13 =>
    kp (Kld t21 t22) <|
    kp (Kld t16 t17) <|
    kp (Kld t14 t15) <|
    cl (f10 t13 t15 t17) fun t18 =>
    kp (Kld t21 t22) <|
    sm Try.prog (Builtin.append_ #[22, 22] 22 #[(.slice none 0 0), t19]) fun t20 =>
    kp (Kld t21 t22) <|
    cl (f11 t20 t22) fun t23 =>
    idv t18 fun t6 =>
    idv t23 fun t7 =>
    dr <|
    idv t6 fun t24 =>
    smr Try.prog (convert 22 9 t24) fun t25 =>
    idv t11 fun t26 =>
    fa 2 t3 fun t27 =>
    ld t27 fun t28 =>
    fa 1 t3 fun t29 =>
    ld t29 fun t30 =>
    cl (f12 t28 t30) fun t31 =>
    kp (Ksm Try.prog (convert 22 9 t24) t25) <|
    cat t26 t31 fun t32 =>
    eqs t25 t32 fun t33 =>
    idv t33 fun t34 =>
    gd t34 true (idv t7) fun t35 =>
    gd t34 true (smr Try.prog (convert 22 9 t35)) fun t36 =>
    gd t34 true (idv t11) fun t37 =>
    gd t34 true (fa 3 t3) fun t38 =>
    gd t34 true (ld t38) fun t39 =>
    gd t34 true (cl (f13 t39)) fun t40 =>
    kp (fun w => gdB t34 true = true → Ksm Try.prog (convert 22 9 t35) t36 w) <|
    gd t34 true (cat t37 t40) fun t41 =>
    gd t34 true (eqs t36 t41) fun t42 =>
    pk t34 t42 (.bool false) fun t43 =>
    idv t43 fun t44 =>
    gd t44 true (fa 2 t3) fun t45 =>
    gd t44 true (ld t45) fun t46 =>
    gd t44 true (fa 1 t3) fun t47 =>
    gd t44 true (ld t47) fun t48 =>
    gd t44 true (fa 2 t3) fun t50 =>
    gd t44 true (ld t50) fun t51 =>
    gd t44 true (fa 1 t3) fun t52 =>
    gd t44 true (ld t52) fun t53 =>
    gd t44 true (cl (f14 t46 t48)) fun t49 =>
    kp (fun w => gdB t44 true = true → Kld t52 t53 w) <|
    kp (fun w => gdB t44 true = true → Kld t50 t51 w) <|
    gd t44 true (cl (f15 t51 t53)) fun t54 =>
    gd t44 true (eqb t49 t54) fun t55 =>
    pk t44 t55 (.bool false) fun t56 =>
    idv t56 fun t4 =>
    rt t4
    )
theorem s3 (t0 t1 : Value) (w : World) (Q : Value → World → Prop) (h : f3 t0 t1 w Q) : Calls Try.prog 3 #[t0, t1] w (Rt Q) := by
  refine calls_of (l := [t0, t1]) Try.func3 rfl Try.ntmps3 (Nat.le_of_ble_eq_true rfl) ?_
  unfold f3 at h
  refine wp_seq ?_
  refine L_region ?_
  refine L_u (P_bx h) ?_
  intro v w h
  refine L_as ?_
  refine L_nil ?_
  refine E_n ?_
  refine wp_seq ?_
  refine wp_seq ?_
  refine L_region ?_
  refine L_u (N_cl Try.func9 rfl nn9 (fun w Q h => s9 w Q h) h) ?_
  intro v w h
  refine L_u (P_nt h) ?_
  intro v w h
  refine L_nil ?_
  refine E_n ?_
  refine C_cnd h (fun h => ?_) (fun h => ?_)
  · refine wp_seq ?_
    refine L_region ?_
    refine L_as ?_
    refine L_nil ?_
    refine E_n ?_
    refine C_ret ?_
    show bodyPost Try.prog Try.f3 (Rt Q) .ret _ _
    exact post_tmps (ts := [4]) (.inr rfl) rfl h
  · refine C_skip ?_
    refine E_n ?_
    refine wp_seq ?_
    refine L_region ?_
    refine L_mv ?_
    refine L_u (P_smr rfl h) ?_
    intro v w h
    refine L_as ?_
    refine L_nil ?_
    refine E_n ?_
    refine wp_seq ?_
    refine D_region (by decide +kernel) 14 rfl ?_
    replace h := dr_e h
    refine G_p 0 rfl (by decide +kernel) (Y_mv h) ?_
    intro v h
    refine G_p 2 rfl (by decide +kernel) (Y_fa fo25_2 h) ?_
    intro v h
    refine G_r _ 3 rfl (by decide +kernel) (R_ld sc23 h) ?_
    intro v h
    refine G_p 4 rfl (by decide +kernel) (Y_fa fo25_1 h) ?_
    intro v h
    refine G_r _ 5 rfl (by decide +kernel) (R_ld sc3 h) ?_
    intro v h
    refine G_p 7 rfl (by decide +kernel) (Y_mv h) ?_
    intro v h
    refine G_p 9 rfl (by decide +kernel) (Y_fa fo25_3 h) ?_
    intro v h
    refine G_r _ 10 rfl (by decide +kernel) (R_ld sc9 h) ?_
    intro v h
    refine G_e 1 rfl (by decide +kernel) (N_bi rfl h ?_)
    intro v w h
    refine ⟨keepF_cons (kp_1 h) (keepF_cons (kp_1 (kp_2 h)) (keepF_cons (kp_1 (kp_2 (kp_2 h))) keepF_nil)), ?_⟩
    replace h := (kp_2 (kp_2 (kp_2 h)))
    refine G_e 6 rfl (by decide +kernel) (N_cl Try.func10 rfl nn10 (fun w Q h => s10 _ _ _ w Q h) h ?_)
    intro v w h
    refine ⟨keepF_cons (kp_1 h) (keepF_dep [5] (by decide +kernel) rfl (keepF_dep [3] (by decide +kernel) rfl keepF_nil)), ?_⟩
    replace h := (kp_2 h)
    refine G_e 8 rfl (by decide +kernel) (N_bi rfl h ?_)
    intro v w h
    refine ⟨keepF_cons (kp_1 h) (keepF_dep [6, 5] (by decide +kernel) rfl (keepF_dep [6, 3] (by decide +kernel) rfl keepF_nil)), ?_⟩
    replace h := (kp_2 h)
    refine G_e 11 rfl (by decide +kernel) (N_cl Try.func11 rfl nn11 (fun w Q h => s11 _ _ w Q h) h ?_)
    intro v w h
    refine ⟨keepF_dep [10] (by decide +kernel) rfl (keepF_dep [8, 6, 5] (by decide +kernel) rfl (keepF_dep [8, 6, 3] (by decide +kernel) rfl keepF_nil)), ?_⟩
    refine G_p 12 rfl (by decide +kernel) (Y_as h) ?_
    intro v h
    refine G_p 13 rfl (by decide +kernel) (Y_as h) ?_
    intro v h
    refine G_done (by decide +kernel) ?_
    refine E_n ?_
    refine wp_seq ?_
    refine D_region (by decide +kernel) 34 rfl ?_
    replace h := dr_e h
    refine G_p 0 rfl (by decide +kernel) (Y_mv h) ?_
    intro v h
    refine G_r _ 1 rfl (by decide +kernel) (R_sm rfl h) ?_
    intro v h
    refine G_p 2 rfl (by decide +kernel) (Y_mv h) ?_
    intro v h
    refine G_p 3 rfl (by decide +kernel) (Y_fa fo25_2 h) ?_
    intro v h
    refine G_r _ 4 rfl (by decide +kernel) (R_ld sc23 h) ?_
    intro v h
    refine G_p 5 rfl (by decide +kernel) (Y_fa fo25_1 h) ?_
    intro v h
    refine G_r _ 6 rfl (by decide +kernel) (R_ld sc3 h) ?_
    intro v h
    refine G_e 7 rfl (by decide +kernel) (N_cl Try.func12 rfl nn12 (fun w Q h => s12 _ _ w Q h) h ?_)
    intro v w h
    refine ⟨keepF_dep [6] (by decide +kernel) rfl (keepF_dep [4] (by decide +kernel) rfl (keepF_cons (kp_1 h) keepF_nil)), ?_⟩
    replace h := (kp_2 h)
    refine G_p 8 rfl (by decide +kernel) (Y_cat h) ?_
    intro v h
    refine G_p 9 rfl (by decide +kernel) (Y_eqs h) ?_
    intro v h
    refine G_p 10 rfl (by decide +kernel) (Y_mv h) ?_
    intro v h
    refine G_pg (t := 34) 11 rfl (by decide +kernel) h rfl rfl (fun h => Y_mv h) ?_
    intro v h
    refine G_rg (t := 34) _ 12 rfl (by decide +kernel) h rfl rfl (fun h => R_sm rfl h) ?_
    intro v h
    refine G_pg (t := 34) 13 rfl (by decide +kernel) h rfl rfl (fun h => Y_mv h) ?_
    intro v h
    refine G_pg (t := 34) 14 rfl (by decide +kernel) h rfl rfl (fun h => Y_fa fo25_3 h) ?_
    intro v h
    refine G_rg (t := 34) _ 15 rfl (by decide +kernel) h rfl rfl (fun h => R_ld sc9 h) ?_
    intro v h
    refine G_eg (t := 34) 16 rfl (by decide +kernel) h rfl rfl (fun c h => N_cl Try.func13 rfl nn13 (fun w Q h => s13 _ w Q h) h c) ?_
    intro v w h
    refine ⟨keepF_dep [15] (by decide +kernel) rfl (keepF_cons (kp_1 h) (keepF_dep [10, 7, 6] (by decide +kernel) rfl (keepF_dep [10, 7, 4] (by decide +kernel) rfl (keepF_dep [10, 9, 1] (by decide +kernel) rfl keepF_nil)))), ?_⟩
    replace h := (kp_2 h)
    refine G_pg (t := 34) 17 rfl (by decide +kernel) h rfl rfl (fun h => Y_cat h) ?_
    intro v h
    refine G_pg (t := 34) 18 rfl (by decide +kernel) h rfl rfl (fun h => Y_eqs h) ?_
    intro v h
    refine G_p 19 rfl (by decide +kernel) (Y_pk h) ?_
    intro v h
    refine G_p 20 rfl (by decide +kernel) (Y_mv h) ?_
    intro v h
    refine G_pg (t := 44) 21 rfl (by decide +kernel) h rfl rfl (fun h => Y_fa fo25_2 h) ?_
    intro v h
    refine G_rg (t := 44) _ 22 rfl (by decide +kernel) h rfl rfl (fun h => R_ld sc23 h) ?_
    intro v h
    refine G_pg (t := 44) 23 rfl (by decide +kernel) h rfl rfl (fun h => Y_fa fo25_1 h) ?_
    intro v h
    refine G_rg (t := 44) _ 24 rfl (by decide +kernel) h rfl rfl (fun h => R_ld sc3 h) ?_
    intro v h
    refine G_pg (t := 44) 26 rfl (by decide +kernel) h rfl rfl (fun h => Y_fa fo25_2 h) ?_
    intro v h
    refine G_rg (t := 44) _ 27 rfl (by decide +kernel) h rfl rfl (fun h => R_ld sc23 h) ?_
    intro v h
    refine G_pg (t := 44) 28 rfl (by decide +kernel) h rfl rfl (fun h => Y_fa fo25_1 h) ?_
    intro v h
    refine G_rg (t := 44) _ 29 rfl (by decide +kernel) h rfl rfl (fun h => R_ld sc3 h) ?_
    intro v h
    refine G_eg (t := 44) 25 rfl (by decide +kernel) h rfl rfl (fun c h => N_cl Try.func14 rfl nn14 (fun w Q h => s14 _ _ w Q h) h c) ?_
    intro v w h
    refine ⟨keepF_cons (kp_1 h) (keepF_cons (kp_1 (kp_2 h)) (keepF_dep [24] (by decide +kernel) rfl (keepF_dep [22] (by decide +kernel) rfl (keepF_dep [20, 16, 15] (by decide +kernel) rfl (keepF_dep [20, 19, 18, 12] (by decide +kernel) rfl (keepF_dep [20, 19, 10, 7, 6] (by decide +kernel) rfl (keepF_dep [20, 19, 10, 7, 4] (by decide +kernel) rfl (keepF_dep [20, 19, 10, 9, 1] (by decide +kernel) rfl keepF_nil)))))))), ?_⟩
    replace h := (kp_2 (kp_2 h))
    refine G_eg (t := 44) 30 rfl (by decide +kernel) h rfl rfl (fun c h => N_cl Try.func15 rfl nn15 (fun w Q h => s15 _ _ w Q h) h c) ?_
    intro v w h
    refine ⟨keepF_dep [29] (by decide +kernel) rfl (keepF_dep [27] (by decide +kernel) rfl (keepF_dep [25, 24] (by decide +kernel) rfl (keepF_dep [25, 22] (by decide +kernel) rfl (keepF_dep [20, 16, 15] (by decide +kernel) rfl (keepF_dep [20, 19, 18, 12] (by decide +kernel) rfl (keepF_dep [20, 19, 10, 7, 6] (by decide +kernel) rfl (keepF_dep [20, 19, 10, 7, 4] (by decide +kernel) rfl (keepF_dep [20, 19, 10, 9, 1] (by decide +kernel) rfl keepF_nil)))))))), ?_⟩
    refine G_pg (t := 44) 31 rfl (by decide +kernel) h rfl rfl (fun h => Y_eqb bo4 h) ?_
    intro v h
    refine G_p 32 rfl (by decide +kernel) (Y_pk h) ?_
    intro v h
    refine G_p 33 rfl (by decide +kernel) (Y_as h) ?_
    intro v h
    refine G_done (by decide +kernel) ?_
    refine E_n ?_
    refine C_ret ?_
    show bodyPost Try.prog Try.f3 (Rt Q) .ret _ _
    exact post_tmps (ts := [4]) (.inr rfl) rfl h

/- factotum/factotumlaw01.PackOrder -/
def f4 (t0 t1 t2 : Value) : M :=
  cl (f9) fun t9 =>
  nt t9 fun t10 =>
  cnd t10 (
    rt (.bool false)
    ) (
    dr <|
    idv t0 fun t11 =>
    idv t2 fun t12 =>
    idv t1 fun t15 =>
    idv t2 fun t16 =>
    cl (f10 (.slice none 0 0) t11 t12) fun t13 =>
    smr Try.prog (convert 22 9 t13) fun t14 =>
    cl (f10 (.slice none 0 0) t15 t16) fun t17 =>
    kp (Ksm Try.prog (convert 22 9 t13) t14) <|
    smr Try.prog (convert 22 9 t17) fun t18 =>
    idv t14 fun t7 =>
    idv t18 fun t8 =>
    cl (f14 t0 t2) fun t21 =>
    nt t21 fun t22 =>
    gd t22 false (idv t1) fun t24 =>
    gd t22 false (idv t2) fun t25 =>
    gd t22 false (cl (f14 t24 t25)) fun t26 =>
    gd t22 false (nt t26) fun t27 =>
    pk t22 (.bool true) t27 fun t28 =>
    cnd t28 (
      lns t7 fun t30 =>
      lns t8 fun t32 =>
      eqi .i64 t30 t32 fun t33 =>
      rt t33
      ) (
      lns t7 fun t35 =>
      lns t8 fun t37 =>
      eqi .i64 t35 t37 fun t38 =>
      gd t38 true (idv t0) fun t40 =>
      gd t38 true (idv t1) fun t41 =>
      gd t38 true (lt .u64 t40 t41) fun t42 =>
      gd t38 true (idv t7) fun t43 =>
      gd t38 true (idv t8) fun t44 =>
      gd t38 true (lts t43 t44) fun t45 =>
      gd t38 true (eqb t42 t45) fun t46 =>
      pk t38 t46 (.bool false) fun t47 =>
      gd t47 true (idv t0) fun t49 =>
      gd t47 true (idv t1) fun t50 =>
      gd t47 true (eqi .u64 t49 t50) fun t51 =>
      gd t47 true (idv t7) fun t52 =>
      gd t47 true (idv t8) fun t53 =>
      gd t47 true (eqs t52 t53) fun t54 =>
      gd t47 true (eqb t51 t54) fun t55 =>
      pk t47 t55 (.bool false) fun t56 =>
      rt t56
      )
    )
theorem s4 (t0 t1 t2 : Value) (w : World) (Q : Value → World → Prop) (h : f4 t0 t1 t2 w Q) : Calls Try.prog 4 #[t0, t1, t2] w (Rt Q) := by
  refine calls_of (l := [t0, t1, t2]) Try.func4 rfl Try.ntmps4 (Nat.le_of_ble_eq_true rfl) ?_
  unfold f4 at h
  refine wp_seq ?_
  refine L_region ?_
  refine L_as ?_
  refine L_nil ?_
  refine E_n ?_
  refine wp_seq ?_
  refine wp_seq ?_
  refine L_region ?_
  refine L_u (N_cl Try.func9 rfl nn9 (fun w Q h => s9 w Q h) h) ?_
  intro v w h
  refine L_u (P_nt h) ?_
  intro v w h
  refine L_nil ?_
  refine E_n ?_
  refine C_cnd h (fun h => ?_) (fun h => ?_)
  · refine wp_seq ?_
    refine L_region ?_
    refine L_as ?_
    refine L_nil ?_
    refine E_n ?_
    refine C_ret ?_
    show bodyPost Try.prog Try.f4 (Rt Q) .ret _ _
    exact post_tmps (ts := [6]) (.inr rfl) rfl h
  · refine C_skip ?_
    refine E_n ?_
    refine wp_seq ?_
    refine D_region (by decide +kernel) 10 rfl ?_
    replace h := dr_e h
    refine G_p 0 rfl (by decide +kernel) (Y_mv h) ?_
    intro v h
    refine G_p 1 rfl (by decide +kernel) (Y_mv h) ?_
    intro v h
    refine G_p 4 rfl (by decide +kernel) (Y_mv h) ?_
    intro v h
    refine G_p 5 rfl (by decide +kernel) (Y_mv h) ?_
    intro v h
    refine G_e 2 rfl (by decide +kernel) (N_cl Try.func10 rfl nn10 (fun w Q h => s10 _ _ _ w Q h) h ?_)
    intro v w h
    refine ⟨keepF_nil, ?_⟩
    refine G_r _ 3 rfl (by decide +kernel) (R_sm rfl h) ?_
    intro v h
    refine G_e 6 rfl (by decide +kernel) (N_cl Try.func10 rfl nn10 (fun w Q h => s10 _ _ _ w Q h) h ?_)
    intro v w h
    refine ⟨keepF_cons (kp_1 h) keepF_nil, ?_⟩
    replace h := (kp_2 h)
    refine G_r _ 7 rfl (by decide +kernel) (R_sm rfl h) ?_
    intro v h
    refine G_p 8 rfl (by decide +kernel) (Y_as h) ?_
    intro v h
    refine G_p 9 rfl (by decide +kernel) (Y_as h) ?_
    intro v h
    refine G_done (by decide +kernel) ?_
    refine E_n ?_
    refine wp_seq ?_
    refine wp_seq ?_
    refine L_region ?_
    refine L_mv ?_
    refine L_mv ?_
    refine L_u (N_cl Try.func14 rfl nn14 (fun w Q h => s14 _ _ w Q h) h) ?_
    intro v w h
    refine L_u (P_nt h) ?_
    intro v w h
    refine L_mv ?_
    refine L_g (t := 23) h rfl rfl (fun c h => P_mv h c) ?_
    intro v w h
    refine L_g (t := 23) h rfl rfl (fun c h => P_mv h c) ?_
    intro v w h
    refine L_g (t := 23) h rfl rfl (fun c h => N_cl Try.func14 rfl nn14 (fun w Q h => s14 _ _ w Q h) h c) ?_
    intro v w h
    refine L_g (t := 23) h rfl rfl (fun c h => P_nt h c) ?_
    intro v w h
    refine L_u (P_pk h) ?_
    intro v w h
    refine L_nil ?_
    refine E_n ?_
    refine C_cnd h (fun h => ?_) (fun h => ?_)
    · refine wp_seq ?_
      refine L_region ?_
      refine L_mv ?_
      refine L_u (P_lns st9 h) ?_
      intro v w h
      refine L_mv ?_
      refine L_u (P_lns st9 h) ?_
      intro v w h
      refine L_u (P_eqi h) ?_
      intro v w h
      refine L_as ?_
      refine L_nil ?_
      refine E_n ?_
      refine C_ret ?_
      show bodyPost Try.prog Try.f4 (Rt Q) .ret _ _
      exact post_tmps (ts := [6]) (.inr rfl) rfl h
    · refine C_skip ?_
      refine E_n ?_
      refine wp_seq ?_
      refine L_region ?_
      refine L_mv ?_
      refine L_u (P_lns st9 h) ?_
      intro v w h
      refine L_mv ?_
      refine L_u (P_lns st9 h) ?_
      intro v w h
      refine L_u (P_eqi h) ?_
      intro v w h
      refine L_mv ?_
      refine L_g (t := 39) h rfl rfl (fun c h => P_mv h c) ?_
      intro v w h
      refine L_g (t := 39) h rfl rfl (fun c h => P_mv h c) ?_
      intro v w h
      refine L_g (t := 39) h rfl rfl (fun c h => P_lt h c) ?_
      intro v w h
      refine L_g (t := 39) h rfl rfl (fun c h => P_mv h c) ?_
      intro v w h
      refine L_g (t := 39) h rfl rfl (fun c h => P_mv h c) ?_
      intro v w h
      refine L_g (t := 39) h rfl rfl (fun c h => P_lts h c) ?_
      intro v w h
      refine L_g (t := 39) h rfl rfl (fun c h => P_eqb bo4 h c) ?_
      intro v w h
      refine L_u (P_pk h) ?_
      intro v w h
      refine L_mv ?_
      refine L_g (t := 48) h rfl rfl (fun c h => P_mv h c) ?_
      intro v w h
      refine L_g (t := 48) h rfl rfl (fun c h => P_mv h c) ?_
      intro v w h
      refine L_g (t := 48) h rfl rfl (fun c h => P_eqi h c) ?_
      intro v w h
      refine L_g (t := 48) h rfl rfl (fun c h => P_mv h c) ?_
      intro v w h
      refine L_g (t := 48) h rfl rfl (fun c h => P_mv h c) ?_
      intro v w h
      refine L_g (t := 48) h rfl rfl (fun c h => P_eqs h c) ?_
      intro v w h
      refine L_g (t := 48) h rfl rfl (fun c h => P_eqb bo4 h c) ?_
      intro v w h
      refine L_u (P_pk h) ?_
      intro v w h
      refine L_as ?_
      refine L_nil ?_
      refine E_n ?_
      refine C_ret ?_
      show bodyPost Try.prog Try.f4 (Rt Q) .ret _ _
      exact post_tmps (ts := [6]) (.inr rfl) rfl h

/- (factotum/factotumlaw01.Thing).kind -/
def f16 (t0 : Value) : M :=
  bx 25 t0 fun t1 =>
  fa 0 t1 fun t3 =>
  ld t3 fun t4 =>
  cv .u64 t4 fun t5 =>
  re .u64 t5 (.int .u64 3) fun t6 =>
  cv .i64 t6 fun t7 =>
  rt t7
theorem s16 (t0 : Value) (w : World) (Q : Value → World → Prop) (h : f16 t0 w Q) : Calls Try.prog 16 #[t0] w (Rt Q) := by
  refine calls_of (l := [t0]) Try.func16 rfl Try.ntmps16 (Nat.le_of_ble_eq_true rfl) ?_
  unfold f16 at h
  refine wp_seq ?_
  refine L_region ?_
  refine L_u (P_bx h) ?_
  intro v w h
  refine L_as ?_
  refine L_nil ?_
  refine E_n ?_
  refine wp_seq ?_
  refine L_region ?_
  refine L_u (P_fa fo25_0 h) ?_
  intro v w h
  refine L_u (P_ld sc3 h) ?_
  intro v w h
  refine L_u (P_cv ai3 in43 h) ?_
  intro v w h
  refine L_u (P_re h) ?_
  intro v w h
  refine L_u (P_cv ai43 in3 h) ?_
  intro v w h
  refine L_as ?_
  refine L_nil ?_
  refine E_n ?_
  refine C_ret ?_
  show bodyPost Try.prog Try.f16 (Rt Q) .ret _ _
  exact post_tmps (ts := [2]) (.inr rfl) rfl h

/- (*factotum/pack.Reader).Raw -/
def f20 (t0 t1 : Value) : M :=
  mxm t1 (.int .i64 0) fun t10 =>
  cl (f31 t0 t10) fun t11 =>
  ex 0 t11 fun t12 =>
  ex 1 t11 fun t13 =>
  rt t12
theorem s20 (t0 t1 : Value) (w : World) (Q : Value → World → Prop) (h : f20 t0 t1 w Q) : Calls Try.prog 20 #[t0, t1] w (Rt Q) := by
  refine calls_of (l := [t0, t1]) Try.func20 rfl Try.ntmps20 (Nat.le_of_ble_eq_true rfl) ?_
  unfold f20 at h
  refine wp_seq ?_
  refine L_region ?_
  refine L_as ?_
  refine L_nil ?_
  refine E_n ?_
  refine wp_seq ?_
  refine L_region ?_
  refine L_mv ?_
  refine L_mv ?_
  refine L_u (P_mxm (t := 0) h) ?_
  intro v w h
  refine L_u (N_cl Try.func31 rfl nn31 (fun w Q h => s31 _ _ w Q h) h) ?_
  intro v w h
  refine L_mv ?_
  refine L_u (P_ex h) ?_
  intro v w h
  refine L_u (P_ex h) ?_
  intro v w h
  refine L_as ?_
  refine L_as ?_
  refine L_nil ?_
  refine E_n ?_
  refine wp_seq ?_
  refine L_region ?_
  refine L_mv ?_
  refine L_as ?_
  refine L_nil ?_
  refine E_n ?_
  refine C_ret ?_
  show bodyPost Try.prog Try.f20 (Rt Q) .ret _ _
  exact post_tmps (ts := [4]) (.inr rfl) rfl h

/- factotum/factotumlaw01.PackBack -/
def f5_j3 (self2 : Value → Value → Value → M) (t0_2 t3_2 t4_1 : Value) : M :=
  ad .i64 t4_1 (.int .i64 1) fun t17 =>
  self2 t0_2 t3_2 t17
def f5_b2 (j1 : Value → Value → M) (self2 : Value → Value → Value → M) (t0_1 t3 t4 : Value) : M :=
  lnl t0_1 fun t14 =>
  lt .i64 t4 t14 fun t15 =>
  cnd t15 (
    ia 4 t0_1 t4 fun t20 =>
    ldn 4 t20 fun t21 =>
    cl (f16 t21) fun t22 =>
    eqi .i64 t22 (.int .i64 0) fun t24 =>
    jn (fun (j3 : Value → Value → Value → M) =>
      cnd t24 (
        dr <|
        idv t3 fun t25 =>
        idv t0_1 fun t26 =>
        idv t4 fun t27 =>
        ia 4 t26 t27 fun t28 =>
        fa 2 t28 fun t29 =>
        ld t29 fun t30 =>
        idv t0_1 fun t31 =>
        idv t4 fun t32 =>
        ia 4 t31 t32 fun t33 =>
        fa 1 t33 fun t34 =>
        ld t34 fun t35 =>
        cl (f10 t25 t30 t35) fun t36 =>
        idv t36 fun t3_1 =>
        j3 t0_1 t3_1 t4
        ) (
        eqi .i64 t22 (.int .i64 1) fun t38 =>
        cnd t38 (
          ia 4 t0_1 t4 fun t42 =>
          fa 3 t42 fun t43 =>
          ld t43 fun t44 =>
          cl (f11 t3 t44) fun t45 =>
          j3 t0_1 t45 t4
          ) (
          eqi .i64 t22 (.int .i64 2) fun t47 =>
          cnd t47 (
            ia 4 t0_1 t4 fun t51 =>
            fa 3 t51 fun t52 =>
            ld t52 fun t53 =>
            sm Try.prog (Builtin.append_ #[22, 9] 22 #[t3, t53]) fun t54 =>
            j3 t0_1 t54 t4
            ) (
            j3 t0_1 t3 t4
            )
          )
        )
      ) (f5_j3 self2)
    ) (
    j1 t0_1 t3
    )
def f5_j6 (self5 : Value → Value → Value → M) (t0_5 t5_1 t6_1 t8_2 : Value) : M :=
  nt t8_2 fun t117 =>
  gd t117 false (idv t5_1) fun t119 =>
  gd t117 false (cl (f21 t119)) fun t120 =>
  gd t117 false (nei .i64 t120 (.int .i64 0)) fun t121 =>
  pk t117 (.bool true) t121 fun t122 =>
  cnd t122 (
    rt (.bool false)
    ) (
    ad .i64 t6_1 (.int .i64 1) fun t63 =>
    self5 t0_5 t5_1 t63
    )
def f5_b5 (j4 : Value → M) (self5 : Value → Value → Value → M) (t0_4 t5 t6 : Value) : M :=
  lnl t0_4 fun t60 =>
  lt .i64 t6 t60 fun t61 =>
  cnd t61 (
    ia 4 t0_4 t6 fun t66 =>
    ldn 4 t66 fun t67 =>
    al 25 #[(.int .i64 0), (.int .i64 0), (.int .u64 0), (.string ⟨#[]⟩)] fun t7 =>
    stn 4 t7 t67 <|
    ldn 4 t7 fun t68 =>
    cl (f16 t68) fun t69 =>
    eqi .i64 t69 (.int .i64 0) fun t71 =>
    jn (fun (j6 : Value → Value → Value → Value → M) =>
      cnd t71 (
        fa 1 t7 fun t73 =>
        ld t73 fun t74 =>
        cl (f18 t5 t74) fun t75 =>
        fa 1 t7 fun t77 =>
        ld t77 fun t78 =>
        cl (f14 t75 t78) fun t79 =>
        gd t79 true (fa 2 t7) fun t81 =>
        gd t79 true (ld t81) fun t82 =>
        gd t79 true (fa 1 t7) fun t83 =>
        gd t79 true (ld t83) fun t84 =>
        gd t79 true (cl (f14 t82 t84)) fun t85 =>
        gd t79 true (nt t85) fun t86 =>
        gd t79 true (idv t86) fun t87 =>
        gd t87 false (idv t75) fun t88 =>
        gd t87 false (fa 2 t7) fun t89 =>
        gd t87 false (ld t89) fun t90 =>
        gd t87 false (eqi .u64 t88 t90) fun t91 =>
        gd t79 true (pk t87 (.bool true) t91) fun t92 =>
        pk t79 t92 (.bool false) fun t93 =>
        j6 t0_4 t5 t6 t93
        ) (
        eqi .i64 t69 (.int .i64 1) fun t95 =>
        cnd t95 (
          dr <|
          idv t5 fun t96 =>
          fa 3 t7 fun t98 =>
          ld t98 fun t99 =>
          fa 3 t7 fun t100 =>
          ld t100 fun t101 =>
          lns t101 fun t102 =>
          mnm t102 (.int .i64 255) fun t103 =>
          sls t99 none (some t103) fun t104 =>
          cl (f19 t96 (.int .i64 255)) fun t97 =>
          kp (Kld t100 t101) <|
          kp (Kld t98 t99) <|
          eqs t97 t104 fun t105 =>
          idv t105 fun t8 =>
          j6 t0_4 t5 t6 t8
          ) (
          eqi .i64 t69 (.int .i64 2) fun t107 =>
          cnd t107 (
            dr <|
            idv t5 fun t108 =>
            fa 3 t7 fun t109 =>
            ld t109 fun t110 =>
            lns t110 fun t111 =>
            fa 3 t7 fun t113 =>
            ld t113 fun t114 =>
            cl (f20 t108 t111) fun t112 =>
            kp (Kld t113 t114) <|
            eqs t112 t114 fun t115 =>
            idv t115 fun t8_1 =>
            j6 t0_4 t5 t6 t8_1
            ) (
            j6 t0_4 t5 t6 (.bool false)
            )
          )
        )
      ) (f5_j6 self5)
    ) (
    j4 t5
    )
def f5_j4 (t5_2 : Value) : M :=
  cl (f22 t5_2) fun t124 =>
  eqi .i64 t124 (.int .i64 0) fun t125 =>
  rt t125
def f5_j1 (t0_3 t3_3 : Value) : M :=
  smr Try.prog (convert 22 9 t3_3) fun t56 =>
  cl (f17 t56) fun t57 =>
  jn (fun (j4 : Value → M) =>
    lo (fun _ _ _ => bot) (f5_b5 j4) (fun l => l t0_3 t57 (.int .i64 0))
    ) (f5_j4)
def f5 (t0 : Value) : M :=
  cl (f9) fun t10 =>
  nt t10 fun t11 =>
  cnd t11 (
    rt (.bool false)
    ) (
    jn (fun (j1 : Value → Value → M) =>
      lo (fun _ _ _ => bot) (f5_b2 j1) (fun l => l t0 (.slice none 0 0) (.int .i64 0))
      ) (f5_j1)
    )
theorem s5 (t0 : Value) (w : World) (Q : Value → World → Prop) (h : f5 t0 w Q) : Calls Try.prog 5 #[t0] w (Rt Q) := by
  refine calls_of (l := [t0]) Try.func5 rfl Try.ntmps5 (Nat.le_of_ble_eq_true rfl) ?_
  unfold f5 at h
  refine wp_seq ?_
  refine L_region ?_
  refine L_as ?_
  refine L_nil ?_
  refine E_n ?_
  refine wp_seq ?_
  refine wp_seq ?_
  refine L_region ?_
  refine L_u (N_cl Try.func9 rfl nn9 (fun w Q h => s9 w Q h) h) ?_
  intro v w h
  refine L_u (P_nt h) ?_
  intro v w h
  refine L_nil ?_
  refine E_n ?_
  refine C_cnd h (fun h => ?_) (fun h => ?_)
  · refine wp_seq ?_
    refine L_region ?_
    refine L_as ?_
    refine L_nil ?_
    refine E_n ?_
    refine C_ret ?_
    show bodyPost Try.prog Try.f5 (Rt Q) .ret _ _
    exact post_tmps (ts := [2]) (.inr rfl) rfl h
  · refine C_skip ?_
    refine E_n ?_
    refine wp_seq ?_
    refine L_region ?_
    refine L_as ?_
    refine L_nil ?_
    refine E_n ?_
    refine wp_seq ?_
    refine wp_seq ?_
    refine L_region ?_
    refine L_as ?_
    refine L_nil ?_
    refine E_n ?_
    refine C_join (fun (k : Value → Value → M) (ρ : Nat → Value) => k (ρ 0) (ρ 3)) h (fun j1 J1 h => ?_) (fun ρ w h => ?_)
    · refine C_blk ?_
      refine C_lo (fun (l : Value → Value → Value → M) (ρ : Nat → Value) => l (ρ 0) (ρ 3) (ρ 4)) h (fun ρ w h => h) (fun nx self2 L2 ρ w h => ?_)
      unfold f5_b2 at h
      refine wp_seq ?_
      refine wp_seq ?_
      refine L_region ?_
      refine L_mv ?_
      refine L_mv ?_
      refine L_u (P_lnl is34 h) ?_
      intro v w h
      refine L_u (P_lt h) ?_
      intro v w h
      refine L_nil ?_
      refine E_n ?_
      refine C_cnd h (fun h => ?_) (fun h => ?_)
      · refine C_skip ?_
        refine E_n ?_
        refine wp_seq ?_
        refine C_blk ?_
        refine wp_seq ?_
        refine L_region ?_
        refine L_mv ?_
        refine L_mv ?_
        refine L_u (P_ia se34 h) ?_
        intro v w h
        refine L_u (P_ldn ag25 h) ?_
        intro v w h
        refine L_u (N_cl Try.func16 rfl nn16 (fun w Q h => s16 _ w Q h) h) ?_
        intro v w h
        refine L_nil ?_
        refine E_n ?_
        refine C_blk ?_
        refine wp_seq ?_
        refine L_region ?_
        refine L_u (P_eqi h) ?_
        intro v w h
        refine L_as ?_
        refine L_nil ?_
        refine E_n ?_
        refine C_join (fun (k : Value → Value → Value → M) (ρ : Nat → Value) => k (ρ 0) (ρ 3) (ρ 4)) h (fun j3 J3 h => ?_) (fun ρ w h => ?_)
        · refine C_cnd h (fun h => ?_) (fun h => ?_)
          · refine D_region (by decide +kernel) 13 rfl ?_
            replace h := dr_e h
            refine G_p 0 rfl (by decide +kernel) (Y_mv h) ?_
            intro v h
            refine G_p 1 rfl (by decide +kernel) (Y_mv h) ?_
            intro v h
            refine G_p 2 rfl (by decide +kernel) (Y_mv h) ?_
            intro v h
            refine G_p 3 rfl (by decide +kernel) (Y_ia se34 h) ?_
            intro v h
            refine G_p 4 rfl (by decide +kernel) (Y_fa fo25_2 h) ?_
            intro v h
            refine G_r _ 5 rfl (by decide +kernel) (R_ld sc23 h) ?_
            intro v h
            refine G_p 6 rfl (by decide +kernel) (Y_mv h) ?_
            intro v h
            refine G_p 7 rfl (by decide +kernel) (Y_mv h) ?_
            intro v h
            refine G_p 8 rfl (by decide +kernel) (Y_ia se34 h) ?_
            intro v h
            refine G_p 9 rfl (by decide +kernel) (Y_fa fo25_1 h) ?_
            intro v h
            refine G_r _ 10 rfl (by decide +kernel) (R_ld sc3 h) ?_
            intro v h
            refine G_e 11 rfl (by decide +kernel) (N_cl Try.func10 rfl nn10 (fun w Q h => s10 _ _ _ w Q h) h ?_)
            intro v w h
            refine ⟨keepF_dep [10] (by decide +kernel) rfl (keepF_dep [5] (by decide +kernel) rfl keepF_nil), ?_⟩
            refine G_p 12 rfl (by decide +kernel) (Y_as h) ?_
            intro v h
            refine G_done (by decide +kernel) ?_
            exact J3 _ _ h
          · refine wp_seq ?_
            refine L_region ?_
            refine L_u (P_eqi h) ?_
            intro v w h
            refine L_as ?_
            refine L_nil ?_
            refine E_n ?_
            refine C_cnd h (fun h => ?_) (fun h => ?_)
            · refine L_region ?_
              refine L_mv ?_
              refine L_mv ?_
              refine L_mv ?_
              refine L_u (P_ia se34 h) ?_
              intro v w h
              refine L_u (P_fa fo25_3 h) ?_
              intro v w h
              refine L_u (P_ld sc9 h) ?_
              intro v w h
              refine L_u (N_cl Try.func11 rfl nn11 (fun w Q h => s11 _ _ w Q h) h) ?_
              intro v w h
              refine L_as ?_
              refine L_nil ?_
              exact J3 _ _ h
            · refine wp_seq ?_
              refine L_region ?_
              refine L_u (P_eqi h) ?_
              intro v w h
              refine L_as ?_
              refine L_nil ?_
              refine E_n ?_
              refine C_cnd h (fun h => ?_) (fun h => ?_)
              · refine L_region ?_
                refine L_mv ?_
                refine L_mv ?_
                refine L_mv ?_
                refine L_u (P_ia se34 h) ?_
                intro v w h
                refine L_u (P_fa fo25_3 h) ?_
                intro v w h
                refine L_u (P_ld sc9 h) ?_
                intro v w h
                refine L_u (N_bi rfl h) ?_
                intro v w h
                refine L_as ?_
                refine L_nil ?_
                exact J3 _ _ h
              · refine C_skip ?_
                exact J3 _ _ h
        · unfold f5_j3 at h
          refine B_n ?_
          refine B_n ?_
          refine E_n ?_
          refine L_region ?_
          refine L_mv ?_
          refine L_u (P_ad h) ?_
          intro v w h
          refine L_as ?_
          refine L_nil ?_
          refine E_n ?_
          exact L2 _ _ h
      · refine C_exit ?_
        refine E_x ?_
        refine E_x ?_
        refine B_x ?_
        exact J1 _ _ h
    · unfold f5_j1 at h
      refine E_n ?_
      refine wp_seq ?_
      refine L_region ?_
      refine L_mv ?_
      refine L_u (P_smr rfl h) ?_
      intro v w h
      refine L_u (N_cl Try.func17 rfl nn17 (fun w Q h => s17 _ w Q h) h) ?_
      intro v w h
      refine L_as ?_
      refine L_nil ?_
      refine E_n ?_
      refine wp_seq ?_
      refine wp_seq ?_
      refine L_region ?_
      refine L_as ?_
      refine L_nil ?_
      refine E_n ?_
      refine C_join (fun (k : Value → M) (ρ : Nat → Value) => k (ρ 5)) h (fun j4 J4 h => ?_) (fun ρ w h => ?_)
      · refine C_blk ?_
        refine C_lo (fun (l : Value → Value → Value → M) (ρ : Nat → Value) => l (ρ 0) (ρ 5) (ρ 6)) h (fun ρ w h => h) (fun nx self5 L5 ρ w h => ?_)
        unfold f5_b5 at h
        refine wp_seq ?_
        refine wp_seq ?_
        refine L_region ?_
        refine L_mv ?_
        refine L_mv ?_
        refine L_u (P_lnl is34 h) ?_
        intro v w h
        refine L_u (P_lt h) ?_
        intro v w h
        refine L_nil ?_
        refine E_n ?_
        refine C_cnd h (fun h => ?_) (fun h => ?_)
        · refine C_skip ?_
          refine E_n ?_
          refine wp_seq ?_
          refine C_blk ?_
          refine wp_seq ?_
          refine L_region ?_
          refine L_mv ?_
          refine L_mv ?_
          refine L_u (P_ia se34 h) ?_
          intro v w h
          refine L_u (P_ldn ag25 h) ?_
          intro v w h
          refine L_u (P_al ze25 rfl h) ?_
          intro v w h
          refine L_u (P_stn ag25 h) ?_
          intro w h
          refine L_nil ?_
          refine E_n ?_
          refine wp_seq ?_
          refine L_region ?_
          refine L_as ?_
          refine L_nil ?_
          refine E_n ?_
          refine wp_seq ?_
          refine wp_seq ?_
          refine L_region ?_
          refine L_u (P_ldn ag25 h) ?_
          intro v w h
          refine L_u (N_cl Try.func16 rfl nn16 (fun w Q h => s16 _ w Q h) h) ?_
          intro v w h
          refine L_nil ?_
          refine E_n ?_
          refine C_blk ?_
          refine wp_seq ?_
          refine L_region ?_
          refine L_u (P_eqi h) ?_
          intro v w h
          refine L_as ?_
          refine L_nil ?_
          refine E_n ?_
          refine C_join (fun (k : Value → Value → Value → Value → M) (ρ : Nat → Value) => k (ρ 0) (ρ 5) (ρ 6) (ρ 8)) h (fun j6 J6 h => ?_) (fun ρ w h => ?_)
          · refine C_cnd h (fun h => ?_) (fun h => ?_)
            · refine wp_seq ?_
              refine L_region ?_
              refine L_mv ?_
              refine L_u (P_fa fo25_1 h) ?_
              intro v w h
              refine L_u (P_ld sc3 h) ?_
              intro v w h
              refine L_u (N_cl Try.func18 rfl nn18 (fun w Q h => s18 _ _ w Q h) h) ?_
              intro v w h
              refine L_as ?_
              refine L_nil ?_
              refine E_n ?_
              refine L_region ?_
              refine L_mv ?_
              refine L_u (P_fa fo25_1 h) ?_
              intro v w h
              refine L_u (P_ld sc3 h) ?_
              intro v w h
              refine L_u (N_cl Try.func14 rfl nn14 (fun w Q h => s14 _ _ w Q h) h) ?_
              intro v w h
              refine L_mv ?_
              refine L_g (t := 80) h rfl rfl (fun c h => P_fa fo25_2 h c) ?_
              intro v w h
              refine L_g (t := 80) h rfl rfl (fun c h => P_ld sc23 h c) ?_
              intro v w h
              refine L_g (t := 80) h rfl rfl (fun c h => P_fa fo25_1 h c) ?_
              intro v w h
              refine L_g (t := 80) h rfl rfl (fun c h => P_ld sc3 h c) ?_
              intro v w h
              refine L_g (t := 80) h rfl rfl (fun c h => N_cl Try.func14 rfl nn14 (fun w Q h => s14 _ _ w Q h) h c) ?_
              intro v w h
              refine L_g (t := 80) h rfl rfl (fun c h => P_nt h c) ?_
              intro v w h
              refine L_g (t := 80) h rfl rfl (fun c h => P_mv h c) ?_
              intro v w h
              refine L_g (t := 87) h rfl rfl (fun c h => P_mv h c) ?_
              intro v w h
              refine L_g (t := 87) h rfl rfl (fun c h => P_fa fo25_2 h c) ?_
              intro v w h
              refine L_g (t := 87) h rfl rfl (fun c h => P_ld sc23 h c) ?_
              intro v w h
              refine L_g (t := 87) h rfl rfl (fun c h => P_eqi h c) ?_
              intro v w h
              refine L_g (t := 80) h rfl rfl (fun c h => P_pk h c) ?_
              intro v w h
              refine L_u (P_pk h) ?_
              intro v w h
              refine L_as ?_
              refine L_nil ?_
              exact J6 _ _ h
            · refine wp_seq ?_
              refine L_region ?_
              refine L_u (P_eqi h) ?_
              intro v w h
              refine L_as ?_
              refine L_nil ?_
              refine E_n ?_
              refine C_cnd h (fun h => ?_) (fun h => ?_)
              · refine D_region (by decide +kernel) 11 rfl ?_
                replace h := dr_e h
                refine G_p 0 rfl (by decide +kernel) (Y_mv h) ?_
                intro v h
                refine G_p 2 rfl (by decide +kernel) (Y_fa fo25_3 h) ?_
                intro v h
                refine G_r _ 3 rfl (by decide +kernel) (R_ld sc9 h) ?_
                intro v h
                refine G_p 4 rfl (by decide +kernel) (Y_fa fo25_3 h) ?_
                intro v h
                refine G_r _ 5 rfl (by decide +kernel) (R_ld sc9 h) ?_
                intro v h
                refine G_p 6 rfl (by decide +kernel) (Y_lns st9 h) ?_
                intro v h
                refine G_p 7 rfl (by decide +kernel) (Y_mnm (t := 0) h) ?_
                intro v h
                refine G_p 8 rfl (by decide +kernel) (Y_sls st9 h) ?_
                intro v h
                refine G_e 1 rfl (by decide +kernel) (N_cl Try.func19 rfl nn19 (fun w Q h => s19 _ _ w Q h) h ?_)
                intro v w h
                refine ⟨keepF_cons (kp_1 h) (keepF_cons (kp_1 (kp_2 h)) keepF_nil), ?_⟩
                replace h := (kp_2 (kp_2 h))
                refine G_p 9 rfl (by decide +kernel) (Y_eqs h) ?_
                intro v h
                refine G_p 10 rfl (by decide +kernel) (Y_as h) ?_
                intro v h
                refine G_done (by decide +kernel) ?_
                exact J6 _ _ h
              · refine wp_seq ?_
                refine L_region ?_
                refine L_u (P_eqi h) ?_
                intro v w h
                refine L_as ?_
                refine L_nil ?_
                refine E_n ?_
                refine C_cnd h (fun h => ?_) (fun h => ?_)
                · refine D_region (by decide +kernel) 9 rfl ?_
                  replace h := dr_e h
                  refine G_p 0 rfl (by decide +kernel) (Y_mv h) ?_
                  intro v h
                  refine G_p 1 rfl (by decide +kernel) (Y_fa fo25_3 h) ?_
                  intro v h
                  refine G_r _ 2 rfl (by decide +kernel) (R_ld sc9 h) ?_
                  intro v h
                  refine G_p 3 rfl (by decide +kernel) (Y_lns st9 h) ?_
                  intro v h
                  refine G_p 5 rfl (by decide +kernel) (Y_fa fo25_3 h) ?_
                  intro v h
                  refine G_r _ 6 rfl (by decide +kernel) (R_ld sc9 h) ?_
                  intro v h
                  refine G_e 4 rfl (by decide +kernel) (N_cl Try.func20 rfl nn20 (fun w Q h => s20 _ _ w Q h) h ?_)
                  intro v w h
                  refine ⟨keepF_cons (kp_1 h) (keepF_dep [3, 2] (by decide +kernel) rfl keepF_nil), ?_⟩
                  replace h := (kp_2 h)
                  refine G_p 7 rfl (by decide +kernel) (Y_eqs h) ?_
                  intro v h
                  refine G_p 8 rfl (by decide +kernel) (Y_as h) ?_
                  intro v h
                  refine G_done (by decide +kernel) ?_
                  exact J6 _ _ h
                · refine C_skip ?_
                  exact J6 _ _ h
          · unfold f5_j6 at h
            refine B_n ?_
            refine E_n ?_
            refine wp_seq ?_
            refine L_region ?_
            refine L_mv ?_
            refine L_u (P_nt h) ?_
            intro v w h
            refine L_mv ?_
            refine L_g (t := 118) h rfl rfl (fun c h => P_mv h c) ?_
            intro v w h
            refine L_g (t := 118) h rfl rfl (fun c h => N_cl Try.func21 rfl nn21 (fun w Q h => s21 _ w Q h) h c) ?_
            intro v w h
            refine L_g (t := 118) h rfl rfl (fun c h => P_nei h c) ?_
            intro v w h
            refine L_u (P_pk h) ?_
            intro v w h
            refine L_nil ?_
            refine E_n ?_
            refine C_cnd h (fun h => ?_) (fun h => ?_)
            · refine wp_seq ?_
              refine L_region ?_
              refine L_as ?_
              refine L_nil ?_
              refine E_n ?_
              refine C_ret ?_
              show bodyPost Try.prog Try.f5 (Rt Q) .ret _ _
              exact post_tmps (ts := [2]) (.inr rfl) rfl h
            · refine C_skip ?_
              refine B_n ?_
              refine E_n ?_
              refine L_region ?_
              refine L_mv ?_
              refine L_u (P_ad h) ?_
              intro v w h
              refine L_as ?_
              refine L_nil ?_
              refine E_n ?_
              exact L5 _ _ h
        · refine C_exit ?_
          refine E_x ?_
          refine E_x ?_
          refine B_x ?_
          exact J4 _ _ h
      · unfold f5_j4 at h
        refine E_n ?_
        refine wp_seq ?_
        refine L_region ?_
        refine L_mv ?_
        refine L_u (N_cl Try.func22 rfl nn22 (fun w Q h => s22 _ w Q h) h) ?_
        intro v w h
        refine L_u (P_eqi h) ?_
        intro v w h
        refine L_as ?_
        refine L_nil ?_
        refine E_n ?_
        refine C_ret ?_
        show bodyPost Try.prog Try.f5 (Rt Q) .ret _ _
        exact post_tmps (ts := [2]) (.inr rfl) rfl h

/- (*factotum/pack.Reader).Left -/
def f23 (t0 : Value) : M :=
  smr Try.prog (do eqGuard .eql 36 (.tmp 3) (.const (.pointer none)) t0 (.pointer none); binOp .eql 36 t0 (.pointer none)) fun t4 =>
  cnd t4 (
    rt (.int .i64 0)
    ) (
    nc t0 fun t6 =>
    fa 0 t6 fun t7 =>
    ld t7 fun t8 =>
    lns t8 fun t9 =>
    rt t9
    )
theorem s23 (t0 : Value) (w : World) (Q : Value → World → Prop) (h : f23 t0 w Q) : Calls Try.prog 23 #[t0] w (Rt Q) := by
  refine calls_of (l := [t0]) Try.func23 rfl Try.ntmps23 (Nat.le_of_ble_eq_true rfl) ?_
  unfold f23 at h
  refine wp_seq ?_
  refine L_region ?_
  refine L_as ?_
  refine L_nil ?_
  refine E_n ?_
  refine wp_seq ?_
  refine wp_seq ?_
  refine L_region ?_
  refine L_mv ?_
  refine L_u (P_smr rfl h) ?_
  intro v w h
  refine L_nil ?_
  refine E_n ?_
  refine C_cnd h (fun h => ?_) (fun h => ?_)
  · refine wp_seq ?_
    refine L_region ?_
    refine L_as ?_
    refine L_nil ?_
    refine E_n ?_
    refine C_ret ?_
    show bodyPost Try.prog Try.f23 (Rt Q) .ret _ _
    exact post_tmps (ts := [2]) (.inr rfl) rfl h
  · refine C_skip ?_
    refine E_n ?_
    refine wp_seq ?_
    refine L_region ?_
    refine L_mv ?_
    refine L_u (P_nc h) ?_
    intro v w h
    refine L_u (P_fa fo52_0 h) ?_
    intro v w h
    refine L_u (P_ld sc9 h) ?_
    intro v w h
    refine L_u (P_lns st9 h) ?_
    intro v w h
    refine L_as ?_
    refine L_nil ?_
    refine E_n ?_
    refine C_ret ?_
    show bodyPost Try.prog Try.f23 (Rt Q) .ret _ _
    exact post_tmps (ts := [2]) (.inr rfl) rfl h

/- factotum/factotumlaw01.PackCuts -/
def f6 (t0 t1 : Value) : M :=
  bx 25 t0 fun t2 =>
  cl (f9) fun t11 =>
  nt t11 fun t12 =>
  cnd t12 (
    rt (.bool false)
    ) (
    dr <|
    fa 2 t2 fun t13 =>
    ld t13 fun t14 =>
    fa 1 t2 fun t15 =>
    ld t15 fun t16 =>
    fa 3 t2 fun t19 =>
    ld t19 fun t20 =>
    cl (f10 (.slice none 0 0) t14 t16) fun t17 =>
    kp (Kld t19 t20) <|
    smr Try.prog (convert 22 9 t17) fun t18 =>
    cl (f11 (.slice none 0 0) t20) fun t21 =>
    kp (Ksm Try.prog (convert 22 9 t17) t18) <|
    smr Try.prog (convert 22 9 t21) fun t22 =>
    idv t18 fun t5 =>
    idv t22 fun t6 =>
    cv .u64 t1 fun t25 =>
    lns t5 fun t27 =>
    cv .u64 t27 fun t28 =>
    re .u64 t25 t28 fun t29 =>
    cv .i64 t29 fun t30 =>
    sls t5 none (some t30) fun t31 =>
    cl (f17 t31) fun t32 =>
    cv .u64 t1 fun t35 =>
    lns t6 fun t37 =>
    cv .u64 t37 fun t38 =>
    re .u64 t35 t38 fun t39 =>
    cv .i64 t39 fun t40 =>
    sls t6 none (some t40) fun t41 =>
    cl (f17 t41) fun t42 =>
    cl (f23 t32) fun t44 =>
    cl (f23 t42) fun t46 =>
    fa 1 t2 fun t48 =>
    ld t48 fun t49 =>
    cl (f18 t32 t49) fun t50 =>
    eqi .u64 t50 (.int .u64 0) fun t51 =>
    gd t51 true (idv t32) fun t53 =>
    gd t51 true (cl (f21 t53)) fun t54 =>
    gd t51 true (eqi .i64 t54 (.int .i64 2)) fun t55 =>
    pk t51 t55 (.bool false) fun t56 =>
    gd t56 true (idv t32) fun t58 =>
    gd t56 true (cl (f23 t58)) fun t59 =>
    gd t56 true (idv t44) fun t60 =>
    gd t56 true (eqi .i64 t59 t60) fun t61 =>
    pk t56 t61 (.bool false) fun t62 =>
    gd t62 true (idv t42) fun t64 =>
    gd t62 true (cl (f19 t64 (.int .i64 255))) fun t65 =>
    gd t62 true (eqs t65 (.string ⟨#[]⟩)) fun t66 =>
    pk t62 t66 (.bool false) fun t67 =>
    gd t67 true (idv t42) fun t69 =>
    gd t67 true (cl (f21 t69)) fun t70 =>
    gd t67 true (eqi .i64 t70 (.int .i64 2)) fun t71 =>
    pk t67 t71 (.bool false) fun t72 =>
    gd t72 true (idv t42) fun t74 =>
    gd t72 true (cl (f23 t74)) fun t75 =>
    gd t72 true (idv t46) fun t76 =>
    gd t72 true (eqi .i64 t75 t76) fun t77 =>
    pk t72 t77 (.bool false) fun t78 =>
    rt t78
    )
theorem s6 (t0 t1 : Value) (w : World) (Q : Value → World → Prop) (h : f6 t0 t1 w Q) : Calls Try.prog 6 #[t0, t1] w (Rt Q) := by
  refine calls_of (l := [t0, t1]) Try.func6 rfl Try.ntmps6 (Nat.le_of_ble_eq_true rfl) ?_
  unfold f6 at h
  refine wp_seq ?_
  refine L_region ?_
  refine L_u (P_bx h) ?_
  intro v w h
  refine L_as ?_
  refine L_nil ?_
  refine E_n ?_
  refine wp_seq ?_
  refine wp_seq ?_
  refine L_region ?_
  refine L_u (N_cl Try.func9 rfl nn9 (fun w Q h => s9 w Q h) h) ?_
  intro v w h
  refine L_u (P_nt h) ?_
  intro v w h
  refine L_nil ?_
  refine E_n ?_
  refine C_cnd h (fun h => ?_) (fun h => ?_)
  · refine wp_seq ?_
    refine L_region ?_
    refine L_as ?_
    refine L_nil ?_
    refine E_n ?_
    refine C_ret ?_
    show bodyPost Try.prog Try.f6 (Rt Q) .ret _ _
    exact post_tmps (ts := [4]) (.inr rfl) rfl h
  · refine C_skip ?_
    refine E_n ?_
    refine wp_seq ?_
    refine D_region (by decide +kernel) 12 rfl ?_
    replace h := dr_e h
    refine G_p 0 rfl (by decide +kernel) (Y_fa fo25_2 h) ?_
    intro v h
    refine G_r _ 1 rfl (by decide +kernel) (R_ld sc23 h) ?_
    intro v h
    refine G_p 2 rfl (by decide +kernel) (Y_fa fo25_1 h) ?_
    intro v h
    refine G_r _ 3 rfl (by decide +kernel) (R_ld sc3 h) ?_
    intro v h
    refine G_p 6 rfl (by decide +kernel) (Y_fa fo25_3 h) ?_
    intro v h
    refine G_r _ 7 rfl (by decide +kernel) (R_ld sc9 h) ?_
    intro v h
    refine G_e 4 rfl (by decide +kernel) (N_cl Try.func10 rfl nn10 (fun w Q h => s10 _ _ _ w Q h) h ?_)
    intro v w h
    refine ⟨keepF_cons (kp_1 h) (keepF_dep [3] (by decide +kernel) rfl (keepF_dep [1] (by decide +kernel) rfl keepF_nil)), ?_⟩
    replace h := (kp_2 h)
    refine G_r _ 5 rfl (by decide +kernel) (R_sm rfl h) ?_
    intro v h
    refine G_e 8 rfl (by decide +kernel) (N_cl Try.func11 rfl nn11 (fun w Q h => s11 _ _ w Q h) h ?_)
    intro v w h
    refine ⟨keepF_cons (kp_1 h) (keepF_dep [7] (by decide +kernel) rfl (keepF_dep [4, 3] (by decide +kernel) rfl (keepF_dep [4, 1] (by decide +kernel) rfl keepF_nil))), ?_⟩
    replace h := (kp_2 h)
    refine G_r _ 9 rfl (by decide +kernel) (R_sm rfl h) ?_
    intro v h
    refine G_p 10 rfl (by decide +kernel) (Y_as h) ?_
    intro v h
    refine G_p 11 rfl (by decide +kernel) (Y_as h) ?_
    intro v h
    refine G_done (by decide +kernel) ?_
    refine E_n ?_
    refine wp_seq ?_
    refine L_region ?_
    refine L_mv ?_
    refine L_mv ?_
    refine L_u (P_cv ai3 in43 h) ?_
    intro v w h
    refine L_mv ?_
    refine L_u (P_lns st9 h) ?_
    intro v w h
    refine L_u (P_cv ai3 in43 h) ?_
    intro v w h
    refine L_u (P_re h) ?_
    intro v w h
    refine L_u (P_cv ai43 in3 h) ?_
    intro v w h
    refine L_u (P_sls st9 h) ?_
    intro v w h
    refine L_u (N_cl Try.func17 rfl nn17 (fun w Q h => s17 _ w Q h) h) ?_
    intro v w h
    refine L_as ?_
    refine L_nil ?_
    refine E_n ?_
    refine wp_seq ?_
    refine L_region ?_
    refine L_mv ?_
    refine L_mv ?_
    refine L_u (P_cv ai3 in43 h) ?_
    intro v w h
    refine L_mv ?_
    refine L_u (P_lns st9 h) ?_
    intro v w h
    refine L_u (P_cv ai3 in43 h) ?_
    intro v w h
    refine L_u (P_re h) ?_
    intro v w h
    refine L_u (P_cv ai43 in3 h) ?_
    intro v w h
    refine L_u (P_sls st9 h) ?_
    intro v w h
    refine L_u (N_cl Try.func17 rfl nn17 (fun w Q h => s17 _ w Q h) h) ?_
    intro v w h
    refine L_as ?_
    refine L_nil ?_
    refine E_n ?_
    refine wp_seq ?_
    refine L_region ?_
    refine L_mv ?_
    refine L_u (N_cl Try.func23 rfl nn23 (fun w Q h => s23 _ w Q h) h) ?_
    intro v w h
    refine L_mv ?_
    refine L_u (N_cl Try.func23 rfl nn23 (fun w Q h => s23 _ w Q h) h) ?_
    intro v w h
    refine L_as ?_
    refine L_as ?_
    refine L_nil ?_
    refine E_n ?_
    refine wp_seq ?_
    refine L_region ?_
    refine L_mv ?_
    refine L_u (P_fa fo25_1 h) ?_
    intro v w h
    refine L_u (P_ld sc3 h) ?_
    intro v w h
    refine L_u (N_cl Try.func18 rfl nn18 (fun w Q h => s18 _ _ w Q h) h) ?_
    intro v w h
    refine L_u (P_eqi h) ?_
    intro v w h
    refine L_mv ?_
    refine L_g (t := 52) h rfl rfl (fun c h => P_mv h c) ?_
    intro v w h
    refine L_g (t := 52) h rfl rfl (fun c h => N_cl Try.func21 rfl nn21 (fun w Q h => s21 _ w Q h) h c) ?_
    intro v w h
    refine L_g (t := 52) h rfl rfl (fun c h => P_eqi h c) ?_
    intro v w h
    refine L_u (P_pk h) ?_
    intro v w h
    refine L_mv ?_
    refine L_g (t := 57) h rfl rfl (fun c h => P_mv h c) ?_
    intro v w h
    refine L_g (t := 57) h rfl rfl (fun c h => N_cl Try.func23 rfl nn23 (fun w Q h => s23 _ w Q h) h c) ?_
    intro v w h
    refine L_g (t := 57) h rfl rfl (fun c h => P_mv h c) ?_
    intro v w h
    refine L_g (t := 57) h rfl rfl (fun c h => P_eqi h c) ?_
    intro v w h
    refine L_u (P_pk h) ?_
    intro v w h
    refine L_mv ?_
    refine L_g (t := 63) h rfl rfl (fun c h => P_mv h c) ?_
    intro v w h
    refine L_g (t := 63) h rfl rfl (fun c h => N_cl Try.func19 rfl nn19 (fun w Q h => s19 _ _ w Q h) h c) ?_
    intro v w h
    refine L_g (t := 63) h rfl rfl (fun c h => P_eqs h c) ?_
    intro v w h
    refine L_u (P_pk h) ?_
    intro v w h
    refine L_mv ?_
    refine L_g (t := 68) h rfl rfl (fun c h => P_mv h c) ?_
    intro v w h
    refine L_g (t := 68) h rfl rfl (fun c h => N_cl Try.func21 rfl nn21 (fun w Q h => s21 _ w Q h) h c) ?_
    intro v w h
    refine L_g (t := 68) h rfl rfl (fun c h => P_eqi h c) ?_
    intro v w h
    refine L_u (P_pk h) ?_
    intro v w h
    refine L_mv ?_
    refine L_g (t := 73) h rfl rfl (fun c h => P_mv h c) ?_
    intro v w h
    refine L_g (t := 73) h rfl rfl (fun c h => N_cl Try.func23 rfl nn23 (fun w Q h => s23 _ w Q h) h c) ?_
    intro v w h
    refine L_g (t := 73) h rfl rfl (fun c h => P_mv h c) ?_
    intro v w h
    refine L_g (t := 73) h rfl rfl (fun c h => P_eqi h c) ?_
    intro v w h
    refine L_u (P_pk h) ?_
    intro v w h
    refine L_as ?_
    refine L_nil ?_
    refine E_n ?_
    refine C_ret ?_
    show bodyPost Try.prog Try.f6 (Rt Q) .ret _ _
    exact post_tmps (ts := [4]) (.inr rfl) rfl h

/- (*factotum/factotumref01.Reader).Left -/
def f27 (t0 : Value) : M :=
  dr <|
  idv t0 fun t3 =>
  nc t3 fun t4 =>
  fa 0 t4 fun t5 =>
  ld t5 fun t6 =>
  lns t6 fun t7 =>
  idv t0 fun t8 =>
  nc t8 fun t9 =>
  fa 1 t9 fun t10 =>
  ld t10 fun t11 =>
  su .i64 t7 t11 fun t12 =>
  idv t12 fun t2 =>
  rt t2
theorem s27 (t0 : Value) (w : World) (Q : Value → World → Prop) (h : f27 t0 w Q) : Calls Try.prog 27 #[t0] w (Rt Q) := by
  refine calls_of (l := [t0]) Try.func27 rfl Try.ntmps27 (Nat.le_of_ble_eq_true rfl) ?_
  unfold f27 at h
  refine wp_seq ?_
  refine L_region ?_
  refine L_as ?_
  refine L_nil ?_
  refine E_n ?_
  refine wp_seq ?_
  refine D_region (by decide +kernel) 11 rfl ?_
  replace h := dr_e h
  refine G_p 0 rfl (by decide +kernel) (Y_mv h) ?_
  intro v h
  refine G_p 1 rfl (by decide +kernel) (Y_nc h) ?_
  intro v h
  refine G_p 2 rfl (by decide +kernel) (Y_fa fo47_0 h) ?_
  intro v h
  refine G_r _ 3 rfl (by decide +kernel) (R_ld sc9 h) ?_
  intro v h
  refine G_p 4 rfl (by decide +kernel) (Y_lns st9 h) ?_
  intro v h
  refine G_p 5 rfl (by decide +kernel) (Y_mv h) ?_
  intro v h
  refine G_p 6 rfl (by decide +kernel) (Y_nc h) ?_
  intro v h
  refine G_p 7 rfl (by decide +kernel) (Y_fa fo47_1 h) ?_
  intro v h
  refine G_r _ 8 rfl (by decide +kernel) (R_ld sc3 h) ?_
  intro v h
  refine G_p 9 rfl (by decide +kernel) (Y_su h) ?_
  intro v h
  refine G_p 10 rfl (by decide +kernel) (Y_as h) ?_
  intro v h
  refine G_done (by decide +kernel) ?_
  refine E_n ?_
  refine C_ret ?_
  show bodyPost Try.prog Try.f27 (Rt Q) .ret _ _
  exact post_tmps (ts := [2]) (.inr rfl) rfl h

/- (*factotum/factotumref01.Reader).Raw -/
def f26 (t0 t1 : Value) : M :=
  mxm t1 (.int .i64 0) fun t6 =>
  nc t0 fun t8 =>
  fa 2 t8 fun t9 =>
  ld t9 fun t10 =>
  nei .i64 t10 (.int .i64 0) fun t11 =>
  cnd t11 (
    rt (.string ⟨#[]⟩)
    ) (
    cl (f27 t0) fun t14 =>
    gt .i64 t6 t14 fun t15 =>
    cnd t15 (
      nc t0 fun t17 =>
      fa 2 t17 fun t18 =>
      st t18 (.int .i64 2) <|
      rt (.string ⟨#[]⟩)
      ) (
      nc t0 fun t20 =>
      fa 1 t20 fun t21 =>
      ld t21 fun t22 =>
      ad .i64 t22 t6 fun t24 =>
      nc t0 fun t25 =>
      fa 1 t25 fun t26 =>
      st t26 t24 <|
      dr <|
      idv t0 fun t27 =>
      nc t27 fun t28 =>
      fa 0 t28 fun t29 =>
      ld t29 fun t30 =>
      idv t0 fun t31 =>
      nc t31 fun t32 =>
      fa 1 t32 fun t33 =>
      ld t33 fun t34 =>
      idv t6 fun t35 =>
      su .i64 t34 t35 fun t36 =>
      idv t0 fun t37 =>
      nc t37 fun t38 =>
      fa 1 t38 fun t39 =>
      ld t39 fun t40 =>
      sls t30 (some t36) (some t40) fun t41 =>
      idv t41 fun t4 =>
      rt t4
      )
    )
theorem s26 (t0 t1 : Value) (w : World) (Q : Value → World → Prop) (h : f26 t0 t1 w Q) : Calls Try.prog 26 #[t0, t1] w (Rt Q) := by
  refine calls_of (l := [t0, t1]) Try.func26 rfl Try.ntmps26 (Nat.le_of_ble_eq_true rfl) ?_
  unfold f26 at h
  refine wp_seq ?_
  refine L_region ?_
  refine L_as ?_
  refine L_nil ?_
  refine E_n ?_
  refine wp_seq ?_
  refine L_region ?_
  refine L_mv ?_
  refine L_u (P_mxm (t := 0) h) ?_
  intro v w h
  refine L_as ?_
  refine L_nil ?_
  refine E_n ?_
  refine wp_seq ?_
  refine wp_seq ?_
  refine L_region ?_
  refine L_mv ?_
  refine L_u (P_nc h) ?_
  intro v w h
  refine L_u (P_fa fo47_2 h) ?_
  intro v w h
  refine L_u (P_ld sc40 h) ?_
  intro v w h
  refine L_u (P_nei h) ?_
  intro v w h
  refine L_nil ?_
  refine E_n ?_
  refine C_cnd h (fun h => ?_) (fun h => ?_)
  · refine wp_seq ?_
    refine L_region ?_
    refine L_as ?_
    refine L_nil ?_
    refine E_n ?_
    refine C_ret ?_
    show bodyPost Try.prog Try.f26 (Rt Q) .ret _ _
    exact post_tmps (ts := [4]) (.inr rfl) rfl h
  · refine C_skip ?_
    refine E_n ?_
    refine wp_seq ?_
    refine wp_seq ?_
    refine L_region ?_
    refine L_mv ?_
    refine L_mv ?_
    refine L_u (N_cl Try.func27 rfl nn27 (fun w Q h => s27 _ w Q h) h) ?_
    intro v w h
    refine L_u (P_gt h) ?_
    intro v w h
    refine L_nil ?_
    refine E_n ?_
    refine C_cnd h (fun h => ?_) (fun h => ?_)
    · refine wp_seq ?_
      refine L_region ?_
      refine L_mv ?_
      refine L_u (P_nc h) ?_
      intro v w h
      refine L_u (P_fa fo47_2 h) ?_
      intro v w h
      refine L_u (P_st on40 h) ?_
      intro w h
      refine L_nil ?_
      refine E_n ?_
      refine wp_seq ?_
      refine L_region ?_
      refine L_as ?_
      refine L_nil ?_
      refine E_n ?_
      refine C_ret ?_
      show bodyPost Try.prog Try.f26 (Rt Q) .ret _ _
      exact post_tmps (ts := [4]) (.inr rfl) rfl h
    · refine C_skip ?_
      refine E_n ?_
      refine wp_seq ?_
      refine L_region ?_
      refine L_mv ?_
      refine L_u (P_nc h) ?_
      intro v w h
      refine L_u (P_fa fo47_1 h) ?_
      intro v w h
      refine L_u (P_ld sc3 h) ?_
      intro v w h
      refine L_mv ?_
      refine L_u (P_ad h) ?_
      intro v w h
      refine L_u (P_nc h) ?_
      intro v w h
      refine L_u (P_fa fo47_1 h) ?_
      intro v w h
      refine L_u (P_st on3 h) ?_
      intro w h
      refine L_nil ?_
      refine E_n ?_
      refine wp_seq ?_
      refine D_region (by decide +kernel) 16 rfl ?_
      replace h := dr_e h
      refine G_p 0 rfl (by decide +kernel) (Y_mv h) ?_
      intro v h
      refine G_p 1 rfl (by decide +kernel) (Y_nc h) ?_
      intro v h
      refine G_p 2 rfl (by decide +kernel) (Y_fa fo47_0 h) ?_
      intro v h
      refine G_r _ 3 rfl (by decide +kernel) (R_ld sc9 h) ?_
      intro v h
      refine G_p 4 rfl (by decide +kernel) (Y_mv h) ?_
      intro v h
      refine G_p 5 rfl (by decide +kernel) (Y_nc h) ?_
      intro v h
      refine G_p 6 rfl (by decide +kernel) (Y_fa fo47_1 h) ?_
      intro v h
      refine G_r _ 7 rfl (by decide +kernel) (R_ld sc3 h) ?_
      intro v h
      refine G_p 8 rfl (by decide +kernel) (Y_mv h) ?_
      intro v h
      refine G_p 9 rfl (by decide +kernel) (Y_su h) ?_
      intro v h
      refine G_p 10 rfl (by decide +kernel) (Y_mv h) ?_
      intro v h
      refine G_p 11 rfl (by decide +kernel) (Y_nc h) ?_
      intro v h
      refine G_p 12 rfl (by decide +kernel) (Y_fa fo47_1 h) ?_
      intro v h
      refine G_r _ 13 rfl (by decide +kernel) (R_ld sc3 h) ?_
      intro v h
      refine G_p 14 rfl (by decide +kernel) (Y_sls st9 h) ?_
      intro v h
      refine G_p 15 rfl (by decide +kernel) (Y_as h) ?_
      intro v h
      refine G_done (by decide +kernel) ?_
      refine E_n ?_
      refine C_ret ?_
      show bodyPost Try.prog Try.f26 (Rt Q) .ret _ _
      exact post_tmps (ts := [4]) (.inr rfl) rfl h

/- (*factotum/factotumref01.Reader).Num -/
def f24_b2 (j1 : Value → M) (self2 : Value → Value → Value → M) (t5 t6 t7 : Value) : M :=
  lns t5 fun t14 =>
  lt .i64 t7 t14 fun t15 =>
  cnd t15 (
    mu .u64 (.int .u64 256) t6 fun t19 =>
    ixs t5 t7 fun t22 =>
    cv .u64 t22 fun t23 =>
    ad .u64 t19 t23 fun t24 =>
    ad .i64 t7 (.int .i64 1) fun t17 =>
    self2 t5 t24 t17
    ) (
    j1 t6
    )
def f24_j1 (t6_1 : Value) : M :=
  rt t6_1
def f24 (t0 t1 : Value) : M :=
  cl (f30 t1) fun t10 =>
  cl (f26 t0 t10) fun t11 =>
  jn (fun (j1 : Value → M) =>
    lo (fun _ _ _ => bot) (f24_b2 j1) (fun l => l t11 (.int .u64 0) (.int .i64 0))
    ) (f24_j1)
theorem s24 (t0 t1 : Value) (w : World) (Q : Value → World → Prop) (h : f24 t0 t1 w Q) : Calls Try.prog 24 #[t0, t1] w (Rt Q) := by
  refine calls_of (l := [t0, t1]) Try.func24 rfl Try.ntmps24 (Nat.le_of_ble_eq_true rfl) ?_
  unfold f24 at h
  refine wp_seq ?_
  refine L_region ?_
  refine L_as ?_
  refine L_nil ?_
  refine E_n ?_
  refine wp_seq ?_
  refine L_region ?_
  refine L_mv ?_
  refine L_mv ?_
  refine L_u (N_cl Try.func30 rfl nn30 (fun w Q h => s30 _ w Q h) h) ?_
  intro v w h
  refine L_u (N_cl Try.func26 rfl nn26 (fun w Q h => s26 _ _ w Q h) h) ?_
  intro v w h
  refine L_as ?_
  refine L_nil ?_
  refine E_n ?_
  refine wp_seq ?_
  refine L_region ?_
  refine L_as ?_
  refine L_nil ?_
  refine E_n ?_
  refine wp_seq ?_
  refine wp_seq ?_
  refine L_region ?_
  refine L_as ?_
  refine L_nil ?_
  refine E_n ?_
  refine C_join (fun (k : Value → M) (ρ : Nat → Value) => k (ρ 6)) h (fun j1 J1 h => ?_) (fun ρ w h => ?_)
  · refine C_blk ?_
    refine C_lo (fun (l : Value → Value → Value → M) (ρ : Nat → Value) => l (ρ 5) (ρ 6) (ρ 7)) h (fun ρ w h => h) (fun nx self2 L2 ρ w h => ?_)
    unfold f24_b2 at h
    refine wp_seq ?_
    refine wp_seq ?_
    refine L_region ?_
    refine L_mv ?_
    refine L_mv ?_
    refine L_u (P_lns st9 h) ?_
    intro v w h
    refine L_u (P_lt h) ?_
    intro v w h
    refine L_nil ?_
    refine E_n ?_
    refine C_cnd h (fun h => ?_) (fun h => ?_)
    · refine C_skip ?_
      refine E_n ?_
      refine wp_seq ?_
      refine C_blk ?_
      refine L_region ?_
      refine L_mv ?_
      refine L_u (P_mu h) ?_
      intro v w h
      refine L_mv ?_
      refine L_mv ?_
      refine L_u (P_ixs st9 h) ?_
      intro v w h
      refine L_u (P_cv ai5 in23 h) ?_
      intro v w h
      refine L_u (P_ad h) ?_
      intro v w h
      refine L_as ?_
      refine L_nil ?_
      refine B_n ?_
      refine E_n ?_
      refine L_region ?_
      refine L_mv ?_
      refine L_u (P_ad h) ?_
      intro v w h
      refine L_as ?_
      refine L_nil ?_
      refine E_n ?_
      exact L2 _ _ h
    · refine C_exit ?_
      refine E_x ?_
      refine E_x ?_
      refine B_x ?_
      exact J1 _ _ h
  · unfold f24_j1 at h
    refine E_n ?_
    refine wp_seq ?_
    refine L_region ?_
    refine L_mv ?_
    refine L_as ?_
    refine L_nil ?_
    refine E_n ?_
    refine C_ret ?_
    show bodyPost Try.prog Try.f24 (Rt Q) .ret _ _
    exact post_tmps (ts := [4]) (.inr rfl) rfl h
end Go.Proofs.Ytalekbaohdeakaa
