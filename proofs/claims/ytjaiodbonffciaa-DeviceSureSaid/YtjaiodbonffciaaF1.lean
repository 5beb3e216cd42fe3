/- Functions as predicate transformers, and that the machine does what they say, by program. -/
import Derived.Test.YtjaiodbonffciaaF0
set_option linter.unusedVariables false
set_option maxRecDepth 20000
set_option maxHeartbeats 4000000
namespace Go.Proofs.Ytjaiodbonffciaa
open Sh
attribute [local irreducible] wpL anyG act jn lo gdB amb kp smr nc fa ld ldn st stn ad su mu qu re lt le gt ge eqi nei bws shl shr cat eqs nes lts gts eqb neb nt pk cv al bx ex fld fldn lnl lns ia iaa ixs sls sll sla mif mnm mxm mm asrt sm smu cl cc cf ci cnd gd gdu
/- factotum/factotumlaw04.doesRef -/
def f19_j1 (t5 : Value) : M :=
  rt t5
def f19 (t0 t1 : Value) : M :=
  bx 40 t1 fun t3 =>
  ldn 5 t3 fun t6 =>
  cl (f26 t6) fun t7 =>
  eqi .i64 t7 (.int .i64 0) fun t9 =>
  jn (fun (j1 : Value → M) =>
    cnd t9 (
      fa 1 t3 fun t11 =>
      ld t11 fun t12 =>
      fa 2 t3 fun t13 =>
      ld t13 fun t14 =>
      cl (f31 t0 t12 t14) fun t15 =>
      j1 t15
      ) (
      eqi .i64 t7 (.int .i64 1) fun t17 =>
      cnd t17 (
        cl (f32 t0) fun t19 =>
        j1 t19
        ) (
        eqi .i64 t7 (.int .i64 2) fun t21 =>
        cnd t21 (
          fa 1 t3 fun t23 =>
          ld t23 fun t24 =>
          cl (f33 t0 t24) fun t25 =>
          j1 (.int .i64 0)
          ) (
          eqi .i64 t7 (.int .i64 3) fun t27 =>
          cnd t27 (
            fa 3 t3 fun t29 =>
            ld t29 fun t30 =>
            fa 1 t3 fun t31 =>
            ld t31 fun t32 =>
            fa 4 t3 fun t33 =>
            ld t33 fun t34 =>
            cl (f34 t0 t30 t32 t34) fun t35 =>
            j1 (.int .i64 0)
            ) (
            j1 (.int .i64 0)
            )
          )
        )
      )
    ) (f19_j1)
theorem s19 (t0 t1 : Value) (w : World) (Q : Value → World → Prop) (h : f19 t0 t1 w Q) : Calls Try.prog 19 #[t0, t1] w (Rt Q) := by
  refine calls_of (l := [t0, t1]) Try.func19 rfl Try.ntmps19 (Nat.le_of_ble_eq_true rfl) ?_
  unfold f19 at h
  refine wp_seq ?_
  refine L_region ?_
  refine L_u (P_bx h) ?_
  intro v w h
  refine L_as ?_
  refine L_nil ?_
  refine E_n ?_
  refine wp_seq ?_
  refine L_region ?_
  refine L_as ?_
  refine L_nil ?_
  refine E_n ?_
  refine wp_seq ?_
  refine wp_seq ?_
  refine L_region ?_
  refine L_u (P_ldn ag40 h) ?_
  intro v w h
  refine L_u (N_cl Try.func26 rfl nn26 (fun w Q h => s26 _ w Q h) h) ?_
  intro v w h
  refine L_nil ?_
  refine E_n ?_
  refine C_blk ?_
  refine wp_seq ?_
  refine L_region ?_
  refine L_u (P_eqi h) ?_
  intro v w h
  refine L_as ?_
  refine L_nil ?_
  refine E_n ?_
  refine C_join (fun (k : Value → M) (ρ : Nat → Value) => k (ρ 5)) h (fun j1 J1 h => ?_) (fun ρ w h => ?_)
  · refine C_cnd h (fun h => ?_) (fun h => ?_)
    · refine L_region ?_
      refine L_mv ?_
      refine L_u (P_fa fo40_1 h) ?_
      intro v w h
      refine L_u (P_ld sc3 h) ?_
      intro v w h
      refine L_u (P_fa fo40_2 h) ?_
      intro v w h
      refine L_u (P_ld sc9 h) ?_
      intro v w h
      refine L_u (N_cl Try.func31 rfl nn31 (fun w Q h => s31 _ _ _ w Q h) h) ?_
      intro v w h
      refine L_as ?_
      refine L_nil ?_
      exact J1 _ _ h
    · refine wp_seq ?_
      refine L_region ?_
      refine L_u (P_eqi h) ?_
      intro v w h
      refine L_as ?_
      refine L_nil ?_
      refine E_n ?_
      refine C_cnd h (fun h => ?_) (fun h => ?_)
      · refine L_region ?_
        refine L_mv ?_
        refine L_u (N_cl Try.func32 rfl nn32 (fun w Q h => s32 _ w Q h) h) ?_
        intro v w h
        refine L_as ?_
        refine L_nil ?_
        exact J1 _ _ h
      · refine wp_seq ?_
        refine L_region ?_
        refine L_u (P_eqi h) ?_
        intro v w h
        refine L_as ?_
        refine L_nil ?_
        refine E_n ?_
        refine C_cnd h (fun h => ?_) (fun h => ?_)
        · refine L_region ?_
          refine L_mv ?_
          refine L_u (P_fa fo40_1 h) ?_
          intro v w h
          refine L_u (P_ld sc3 h) ?_
          intro v w h
          refine L_u (N_cl Try.func33 rfl nn33 (fun w Q h => s33 _ _ w Q h) h) ?_
          intro v w h
          refine L_nil ?_
          exact J1 _ _ h
        · refine wp_seq ?_
          refine L_region ?_
          refine L_u (P_eqi h) ?_
          intro v w h
          refine L_as ?_
          refine L_nil ?_
          refine E_n ?_
          refine C_cnd h (fun h => ?_) (fun h => ?_)
          · refine L_region ?_
            refine L_mv ?_
            refine L_u (P_fa fo40_3 h) ?_
            intro v w h
            refine L_u (P_ld sc38 h) ?_
            intro v w h
            refine L_u (P_fa fo40_1 h) ?_
            intro v w h
            refine L_u (P_ld sc3 h) ?_
            intro v w h
            refine L_u (P_fa fo40_4 h) ?_
            intro v w h
            refine L_u (P_ld sc3 h) ?_
            intro v w h
            refine L_u (N_cl Try.func34 rfl nn34 (fun w Q h => s34 _ _ _ _ w Q h) h) ?_
            intro v w h
            refine L_nil ?_
            exact J1 _ _ h
          · refine C_skip ?_
            exact J1 _ _ h
  · unfold f19_j1 at h
    refine B_n ?_
    refine E_n ?_
    refine wp_seq ?_
    refine L_region ?_
    refine L_mv ?_
    refine L_as ?_
    refine L_nil ?_
    refine E_n ?_
    refine C_ret ?_
    show bodyPost Try.prog Try.f19 (Rt Q) .ret _ _
    exact post_tmps (ts := [4]) (.inr rfl) rfl h

/- factotum/factotumref04.SameInts -/
def f20_b2 (j1 : M) (self2 : Value → Value → Value → M) (t0_1 t1_1 t5 : Value) : M :=
  lnl t0_1 fun t13 =>
  lt .i64 t5 t13 fun t14 =>
  cnd t14 (
    dr <|
    idv t0_1 fun t17 =>
    idv t5 fun t18 =>
    ia 1 t17 t18 fun t19 =>
    ld t19 fun t20 =>
    idv t1_1 fun t21 =>
    idv t5 fun t22 =>
    ia 1 t21 t22 fun t23 =>
    ld t23 fun t24 =>
    nei .i64 t20 t24 fun t25 =>
    cnd t25 (
      rt (.bool false)
      ) (
      ad .i64 t5 (.int .i64 1) fun t16 =>
      self2 t0_1 t1_1 t16
      )
    ) (
    j1
    )
def f20_j1 : M :=
  rt (.bool true)
def f20 (t0 t1 : Value) : M :=
  lnl t0 fun t7 =>
  lnl t1 fun t9 =>
  nei .i64 t7 t9 fun t10 =>
  cnd t10 (
    rt (.bool false)
    ) (
    jn (fun (j1 : M) =>
      lo (fun _ _ _ => bot) (f20_b2 j1) (fun l => l t0 t1 (.int .i64 0))
      ) (f20_j1)
    )
theorem s20 (t0 t1 : Value) (w : World) (Q : Value → World → Prop) (h : f20 t0 t1 w Q) : Calls Try.prog 20 #[t0, t1] w (Rt Q) := by
  refine calls_of (l := [t0, t1]) Try.func20 rfl Try.ntmps20 (Nat.le_of_ble_eq_true rfl) ?_
  unfold f20 at h
  refine wp_seq ?_
  refine L_region ?_
  refine L_as ?_
  refine L_nil ?_
  refine E_n ?_
  refine wp_seq ?_
  refine wp_seq ?_
  refine L_region ?_
  refine L_mv ?_
  refine L_u (P_lnl is29 h) ?_
  intro v w h
  refine L_mv ?_
  refine L_u (P_lnl is29 h) ?_
  intro v w h
  refine L_u (P_nei h) ?_
  intro v w h
  refine L_nil ?_
  refine E_n ?_
  refine C_cnd h (fun h => ?_) (fun h => ?_)
  · refine wp_seq ?_
    refine L_region ?_
    refine L_as ?_
    refine L_nil ?_
    refine E_n ?_
    refine C_ret ?_
    show bodyPost Try.prog Try.f20 (Rt Q) .ret _ _
    exact post_tmps (ts := [4]) (.inr rfl) rfl h
  · refine C_skip ?_
    refine E_n ?_
    refine wp_seq ?_
    refine wp_seq ?_
    refine L_region ?_
    refine L_as ?_
    refine L_nil ?_
    refine E_n ?_
    refine C_join (fun (k : M) (ρ : Nat → Value) => k) h (fun j1 J1 h => ?_) (fun ρ w h => ?_)
    · refine C_blk ?_
      refine C_lo (fun (l : Value → Value → Value → M) (ρ : Nat → Value) => l (ρ 0) (ρ 1) (ρ 5)) h (fun ρ w h => h) (fun nx self2 L2 ρ w h => ?_)
      unfold f20_b2 at h
      refine wp_seq ?_
      refine wp_seq ?_
      refine L_region ?_
      refine L_mv ?_
      refine L_mv ?_
      refine L_u (P_lnl is29 h) ?_
      intro v w h
      refine L_u (P_lt h) ?_
      intro v w h
      refine L_nil ?_
      refine E_n ?_
      refine C_cnd h (fun h => ?_) (fun h => ?_)
      · refine C_skip ?_
        refine E_n ?_
        refine wp_seq ?_
        refine C_blk ?_
        refine wp_seq ?_
        refine D_region (by decide +kernel) 9 rfl ?_
        replace h := dr_e h
        refine G_p 0 rfl (by decide +kernel) (Y_mv h) ?_
        intro v h
        refine G_p 1 rfl (by decide +kernel) (Y_mv h) ?_
        intro v h
        refine G_p 2 rfl (by decide +kernel) (Y_ia se29 h) ?_
        intro v h
        refine G_r _ 3 rfl (by decide +kernel) (R_ld sc3 h) ?_
        intro v h
        refine G_p 4 rfl (by decide +kernel) (Y_mv h) ?_
        intro v h
        refine G_p 5 rfl (by decide +kernel) (Y_mv h) ?_
        intro v h
        refine G_p 6 rfl (by decide +kernel) (Y_ia se29 h) ?_
        intro v h
        refine G_r _ 7 rfl (by decide +kernel) (R_ld sc3 h) ?_
        intro v h
        refine G_p 8 rfl (by decide +kernel) (Y_nei h) ?_
        intro v h
        refine G_done (by decide +kernel) ?_
        refine E_n ?_
        refine C_cnd h (fun h => ?_) (fun h => ?_)
        · refine wp_seq ?_
          refine L_region ?_
          refine L_as ?_
          refine L_nil ?_
          refine E_n ?_
          refine C_ret ?_
          show bodyPost Try.prog Try.f20 (Rt Q) .ret _ _
          exact post_tmps (ts := [4]) (.inr rfl) rfl h
        · refine C_skip ?_
          refine B_n ?_
          refine E_n ?_
          refine L_region ?_
          refine L_mv ?_
          refine L_u (P_ad h) ?_
          intro v w h
          refine L_as ?_
          refine L_nil ?_
          refine E_n ?_
          exact L2 _ _ h
      · refine C_exit ?_
        refine E_x ?_
        refine E_x ?_
        refine B_x ?_
        exact J1 _ _ h
    · unfold f20_j1 at h
      refine E_n ?_
      refine wp_seq ?_
      refine L_region ?_
      refine L_as ?_
      refine L_nil ?_
      refine E_n ?_
      refine C_ret ?_
      show bodyPost Try.prog Try.f20 (Rt Q) .ret _ _
      exact post_tmps (ts := [4]) (.inr rfl) rfl h

/- (*factotum/factotumref04.Device).Read -/
def f22 (t0 t1 : Value) : M :=
  lt .i64 t1 (.int .i64 0) fun t6 =>
  gd t6 false (idv t1) fun t8 =>
  gd t6 false (idv t0) fun t9 =>
  gd t6 false (nc t9) fun t10 =>
  gd t6 false (fa 0 t10) fun t11 =>
  gd t6 false (ld t11) fun t12 =>
  gd t6 false (lnl t12) fun t13 =>
  gd t6 false (ge .i64 t8 t13) fun t14 =>
  pk t6 (.bool true) t14 fun t15 =>
  cnd t15 (
    rt (.string ⟨#[]⟩)
    ) (
    nc t0 fun t17 =>
    fa 0 t17 fun t18 =>
    ld t18 fun t19 =>
    ia 3 t19 t1 fun t21 =>
    fa 1 t21 fun t22 =>
    ld t22 fun t23 =>
    rt t23
    )
theorem s22 (t0 t1 : Value) (w : World) (Q : Value → World → Prop) (h : f22 t0 t1 w Q) : Calls Try.prog 22 #[t0, t1] w (Rt Q) := by
  refine calls_of (l := [t0, t1]) Try.func22 rfl Try.ntmps22 (Nat.le_of_ble_eq_true rfl) ?_
  unfold f22 at h
  refine wp_seq ?_
  refine L_region ?_
  refine L_as ?_
  refine L_nil ?_
  refine E_n ?_
  refine wp_seq ?_
  refine wp_seq ?_
  refine L_region ?_
  refine L_mv ?_
  refine L_u (P_lt h) ?_
  intro v w h
  refine L_mv ?_
  refine L_g (t := 7) h rfl rfl (fun c h => P_mv h c) ?_
  intro v w h
  refine L_g (t := 7) h rfl rfl (fun c h => P_mv h c) ?_
  intro v w h
  refine L_g (t := 7) h rfl rfl (fun c h => P_nc h c) ?_
  intro v w h
  refine L_g (t := 7) h rfl rfl (fun c h => P_fa fo44_0 h c) ?_
  intro v w h
  refine L_g (t := 7) h rfl rfl (fun c h => P_ld sc42 h c) ?_
  intro v w h
  refine L_g (t := 7) h rfl rfl (fun c h => P_lnl is42 h c) ?_
  intro v w h
  refine L_g (t := 7) h rfl rfl (fun c h => P_ge h c) ?_
  intro v w h
  refine L_u (P_pk h) ?_
  intro v w h
  refine L_nil ?_
  refine E_n ?_
  refine C_cnd h (fun h => ?_) (fun h => ?_)
  · refine wp_seq ?_
    refine L_region ?_
    refine L_as ?_
    refine L_nil ?_
    refine E_n ?_
    refine C_ret ?_
    show bodyPost Try.prog Try.f22 (Rt Q) .ret _ _
    exact post_tmps (ts := [4]) (.inr rfl) rfl h
  · refine C_skip ?_
    refine E_n ?_
    refine wp_seq ?_
    refine L_region ?_
    refine L_mv ?_
    refine L_u (P_nc h) ?_
    intro v w h
    refine L_u (P_fa fo44_0 h) ?_
    intro v w h
    refine L_u (P_ld sc42 h) ?_
    intro v w h
    refine L_mv ?_
    refine L_u (P_ia se42 h) ?_
    intro v w h
    refine L_u (P_fa fo70_1 h) ?_
    intro v w h
    refine L_u (P_ld sc9 h) ?_
    intro v w h
    refine L_as ?_
    refine L_nil ?_
    refine E_n ?_
    refine C_ret ?_
    show bodyPost Try.prog Try.f22 (Rt Q) .ret _ _
    exact post_tmps (ts := [4]) (.inr rfl) rfl h

/- factotum/factotumlaw04.DevicePlays -/
def f4_b4 (j3 : Value → Value → Value → Value → Value → M) (self4 : Value → Value → Value → Value → Value → Value → M) (t0_2 t1_2 t5_1 t6_1 t7_1 t8 : Value) : M :=
  le .i64 t8 t0_2 fun t59 =>
  cnd t59 (
    cl (f13 t5_1 t8) fun t64 =>
    cl (f22 t6_1 t8) fun t67 =>
    nes t64 t67 fun t68 =>
    cnd t68 (
      rt (.bool false)
      ) (
      ad .i64 t8 (.int .i64 1) fun t61 =>
      self4 t0_2 t1_2 t5_1 t6_1 t7_1 t61
      )
    ) (
    j3 t0_2 t1_2 t5_1 t6_1 t7_1
    )
def f4_j3 (self2 : Value → Value → Value → Value → Value → M) (t0_3 t1_3 t5_2 t6_2 t7_2 : Value) : M :=
  ad .i64 t7_2 (.int .i64 1) fun t26 =>
  self2 t0_3 t1_3 t5_2 t6_2 t26
def f4_b2 (j1 : Value → Value → M) (self2 : Value → Value → Value → Value → Value → M) (t0_1 t1_1 t5 t6 t7 : Value) : M :=
  lnl t1_1 fun t23 =>
  lt .i64 t7 t23 fun t24 =>
  cnd t24 (
    dr <|
    idv t5 fun t27 =>
    idv t1_1 fun t28 =>
    idv t7 fun t29 =>
    ia 5 t28 t29 fun t30 =>
    ldn 5 t30 fun t31 =>
    idv t6 fun t33 =>
    idv t1_1 fun t34 =>
    idv t7 fun t35 =>
    ia 5 t34 t35 fun t36 =>
    ldn 5 t36 fun t37 =>
    cl (f18 t27 t31) fun t32 =>
    kp (Kldn 5 t36 t37) <|
    cl (f19 t33 t37) fun t38 =>
    nei .i64 t32 t38 fun t39 =>
    idv t39 fun t40 =>
    gd t40 false (idv t5) fun t41 =>
    gd t40 false (idv t6) fun t43 =>
    gd t40 false (nc t43) fun t44 =>
    gd t40 false (fa 1 t44) fun t45 =>
    gd t40 false (ld t45) fun t46 =>
    gd t40 false (cl (f15 t41)) fun t42 =>
    kp (fun w => gdB t40 false = true → Kld t45 t46 w) <|
    gd t40 false (nei .i64 t42 t46) fun t47 =>
    pk t40 (.bool true) t47 fun t48 =>
    idv t48 fun t49 =>
    gd t49 false (idv t5) fun t50 =>
    gd t49 false (idv t6) fun t52 =>
    gd t49 false (cl (f14 t50)) fun t51 =>
    gd t49 false (cl (f21 t52)) fun t53 =>
    gd t49 false (cl (f20 t51 t53)) fun t54 =>
    gd t49 false (nt t54) fun t55 =>
    pk t49 (.bool true) t55 fun t56 =>
    cnd t56 (
      rt (.bool false)
      ) (
      jn (fun (j3 : Value → Value → Value → Value → Value → M) =>
        lo (fun _ _ _ _ _ _ => bot) (f4_b4 j3) (fun l => l t0_1 t1_1 t5 t6 t7 (.int .i64 (-1)))
        ) (f4_j3 self2)
      )
    ) (
    j1 t0_1 t5
    )
def f4_j1 (t0_4 t5_3 : Value) : M :=
  cl (f11 t5_3) fun t70 =>
  eqi .i64 t70 t0_4 fun t72 =>
  rt t72
def f4 (t0 t1 : Value) : M :=
  cl (f9) fun t9 =>
  nt t9 fun t10 =>
  cnd t10 (
    rt (.bool false)
    ) (
    cv .u64 t0 fun t12 =>
    re .u64 t12 (.int .u64 20) fun t13 =>
    cv .i64 t13 fun t14 =>
    cl (f16 t1) fun t16 =>
    cl (f10 t14) fun t18 =>
    cl (f17 t14) fun t20 =>
    jn (fun (j1 : Value → Value → M) =>
      lo (fun _ _ _ _ _ => bot) (f4_b2 j1) (fun l => l t14 t16 t18 t20 (.int .i64 0))
      ) (f4_j1)
    )
theorem s4 (t0 t1 : Value) (w : World) (Q : Value → World → Prop) (h : f4 t0 t1 w Q) : Calls Try.prog 4 #[t0, t1] w (Rt Q) := by
  refine calls_of (l := [t0, t1]) Try.func4 rfl Try.ntmps4 (Nat.le_of_ble_eq_true rfl) ?_
  unfold f4 at h
  refine wp_seq ?_
  refine L_region ?_
  refine L_as ?_
  refine L_nil ?_
  refine E_n ?_
  refine wp_seq ?_
  refine wp_seq ?_
  refine L_region ?_
  refine L_u (N_cl Try.func9 rfl nn9 (fun w Q h => s9 w Q h) h) ?_
  intro v w h
  refine L_u (P_nt h) ?_
  intro v w h
  refine L_nil ?_
  refine E_n ?_
  refine C_cnd h (fun h => ?_) (fun h => ?_)
  · refine wp_seq ?_
    refine L_region ?_
    refine L_as ?_
    refine L_nil ?_
    refine E_n ?_
    refine C_ret ?_
    show bodyPost Try.prog Try.f4 (Rt Q) .ret _ _
    exact post_tmps (ts := [4]) (.inr rfl) rfl h
  · refine C_skip ?_
    refine E_n ?_
    refine wp_seq ?_
    refine L_region ?_
    refine L_mv ?_
    refine L_u (P_cv ai3 in25 h) ?_
    intro v w h
    refine L_u (P_re h) ?_
    intro v w h
    refine L_u (P_cv ai25 in3 h) ?_
    intro v w h
    refine L_as ?_
    refine L_nil ?_
    refine E_n ?_
    refine wp_seq ?_
    refine L_region ?_
    refine L_mv ?_
    refine L_u (N_cl Try.func16 rfl nn16 (fun w Q h => s16 _ w Q h) h) ?_
    intro v w h
    refine L_as ?_
    refine L_nil ?_
    refine E_n ?_
    refine wp_seq ?_
    refine L_region ?_
    refine L_mv ?_
    refine L_u (N_cl Try.func10 rfl nn10 (fun w Q h => s10 _ w Q h) h) ?_
    intro v w h
    refine L_mv ?_
    refine L_u (N_cl Try.func17 rfl nn17 (fun w Q h => s17 _ w Q h) h) ?_
    intro v w h
    refine L_as ?_
    refine L_as ?_
    refine L_nil ?_
    refine E_n ?_
    refine wp_seq ?_
    refine wp_seq ?_
    refine L_region ?_
    refine L_as ?_
    refine L_nil ?_
    refine E_n ?_
    refine C_join (fun (k : Value → Value → M) (ρ : Nat → Value) => k (ρ 0) (ρ 5)) h (fun j1 J1 h => ?_) (fun ρ w h => ?_)
    · refine C_blk ?_
      refine C_lo (fun (l : Value → Value → Value → Value → Value → M) (ρ : Nat → Value) => l (ρ 0) (ρ 1) (ρ 5) (ρ 6) (ρ 7)) h (fun ρ w h => h) (fun nx self2 L2 ρ w h => ?_)
      unfold f4_b2 at h
      refine wp_seq ?_
      refine wp_seq ?_
      refine L_region ?_
      refine L_mv ?_
      refine L_mv ?_
      refine L_u (P_lnl is32 h) ?_
      intro v w h
      refine L_u (P_lt h) ?_
      intro v w h
      refine L_nil ?_
      refine E_n ?_
      refine C_cnd h (fun h => ?_) (fun h => ?_)
      · refine C_skip ?_
        refine E_n ?_
        refine wp_seq ?_
        refine C_blk ?_
        refine wp_seq ?_
        refine wp_seq ?_
        refine D_region (by decide +kernel) 30 rfl ?_
        replace h := dr_e h
        refine G_p 0 rfl (by decide +kernel) (Y_mv h) ?_
        intro v h
        refine G_p 1 rfl (by decide +kernel) (Y_mv h) ?_
        intro v h
        refine G_p 2 rfl (by decide +kernel) (Y_mv h) ?_
        intro v h
        refine G_p 3 rfl (by decide +kernel) (Y_ia se32 h) ?_
        intro v h
        refine G_r _ 4 rfl (by decide +kernel) (R_ldn ag40 h) ?_
        intro v h
        refine G_p 6 rfl (by decide +kernel) (Y_mv h) ?_
        intro v h
        refine G_p 7 rfl (by decide +kernel) (Y_mv h) ?_
        intro v h
        refine G_p 8 rfl (by decide +kernel) (Y_mv h) ?_
        intro v h
        refine G_p 9 rfl (by decide +kernel) (Y_ia se32 h) ?_
        intro v h
        refine G_r _ 10 rfl (by decide +kernel) (R_ldn ag40 h) ?_
        intro v h
        refine G_e 5 rfl (by decide +kernel) (N_cl Try.func18 rfl nn18 (fun w Q h => s18 _ _ w Q h) h ?_)
        intro v w h
        refine ⟨keepF_cons (kp_1 h) (keepF_dep [4] (by decide +kernel) rfl keepF_nil), ?_⟩
        replace h := (kp_2 h)
        refine G_e 11 rfl (by decide +kernel) (N_cl Try.func19 rfl nn19 (fun w Q h => s19 _ _ w Q h) h ?_)
        intro v w h
        refine ⟨keepF_dep [10] (by decide +kernel) rfl (keepF_dep [5, 4] (by decide +kernel) rfl keepF_nil), ?_⟩
        refine G_p 12 rfl (by decide +kernel) (Y_nei h) ?_
        intro v h
        refine G_p 13 rfl (by decide +kernel) (Y_mv h) ?_
        intro v h
        refine G_pg (t := 40) 14 rfl (by decide +kernel) h rfl rfl (fun h => Y_mv h) ?_
        intro v h
        refine G_pg (t := 40) 16 rfl (by decide +kernel) h rfl rfl (fun h => Y_mv h) ?_
        intro v h
        refine G_pg (t := 40) 17 rfl (by decide +kernel) h rfl rfl (fun h => Y_nc h) ?_
        intro v h
        refine G_pg (t := 40) 18 rfl (by decide +kernel) h rfl rfl (fun h => Y_fa fo44_1 h) ?_
        intro v h
        refine G_rg (t := 40) _ 19 rfl (by decide +kernel) h rfl rfl (fun h => R_ld sc3 h) ?_
        intro v h
        refine G_eg (t := 40) 15 rfl (by decide +kernel) h rfl rfl (fun c h => N_cl Try.func15 rfl nn15 (fun w Q h => s15 _ w Q h) h c) ?_
        intro v w h
        refine ⟨keepF_cons (kp_1 h) (keepF_dep [13, 11, 10] (by decide +kernel) rfl (keepF_dep [13, 12, 5, 4] (by decide +kernel) rfl keepF_nil)), ?_⟩
        replace h := (kp_2 h)
        refine G_pg (t := 40) 20 rfl (by decide +kernel) h rfl rfl (fun h => Y_nei h) ?_
        intro v h
        refine G_p 21 rfl (by decide +kernel) (Y_pk h) ?_
        intro v h
        refine G_p 22 rfl (by decide +kernel) (Y_mv h) ?_
        intro v h
        refine G_pg (t := 49) 23 rfl (by decide +kernel) h rfl rfl (fun h => Y_mv h) ?_
        intro v h
        refine G_pg (t := 49) 25 rfl (by decide +kernel) h rfl rfl (fun h => Y_mv h) ?_
        intro v h
        refine G_eg (t := 49) 24 rfl (by decide +kernel) h rfl rfl (fun c h => N_cl Try.func14 rfl nn14 (fun w Q h => s14 _ w Q h) h c) ?_
        intro v w h
        refine ⟨keepF_dep [22, 21, 20, 19] (by decide +kernel) rfl (keepF_dep [22, 21, 13, 11, 10] (by decide +kernel) rfl (keepF_dep [22, 21, 13, 12, 5, 4] (by decide +kernel) rfl keepF_nil)), ?_⟩
        refine G_eg (t := 49) 26 rfl (by decide +kernel) h rfl rfl (fun c h => N_cl Try.func21 rfl nn21 (fun w Q h => s21 _ w Q h) h c) ?_
        intro v w h
        refine ⟨keepF_dep [22, 21, 20, 19] (by decide +kernel) rfl (keepF_dep [22, 21, 13, 11, 10] (by decide +kernel) rfl (keepF_dep [22, 21, 13, 12, 5, 4] (by decide +kernel) rfl keepF_nil)), ?_⟩
        refine G_eg (t := 49) 27 rfl (by decide +kernel) h rfl rfl (fun c h => N_cl Try.func20 rfl nn20 (fun w Q h => s20 _ _ w Q h) h c) ?_
        intro v w h
        refine ⟨keepF_dep [22, 21, 20, 19] (by decide +kernel) rfl (keepF_dep [22, 21, 13, 11, 10] (by decide +kernel) rfl (keepF_dep [22, 21, 13, 12, 5, 4] (by decide +kernel) rfl keepF_nil)), ?_⟩
        refine G_pg (t := 49) 28 rfl (by decide +kernel) h rfl rfl (fun h => Y_nt h) ?_
        intro v h
        refine G_p 29 rfl (by decide +kernel) (Y_pk h) ?_
        intro v h
        refine G_done (by decide +kernel) ?_
        refine E_n ?_
        refine C_cnd h (fun h => ?_) (fun h => ?_)
        · refine wp_seq ?_
          refine L_region ?_
          refine L_as ?_
          refine L_nil ?_
          refine E_n ?_
          refine C_ret ?_
          show bodyPost Try.prog Try.f4 (Rt Q) .ret _ _
          exact post_tmps (ts := [4]) (.inr rfl) rfl h
        · refine C_skip ?_
          refine E_n ?_
          refine wp_seq ?_
          refine L_region ?_
          refine L_as ?_
          refine L_nil ?_
          refine E_n ?_
          refine C_join (fun (k : Value → Value → Value → Value → Value → M) (ρ : Nat → Value) => k (ρ 0) (ρ 1) (ρ 5) (ρ 6) (ρ 7)) h (fun j3 J3 h => ?_) (fun ρ w h => ?_)
          · refine C_blk ?_
            refine C_lo (fun (l : Value → Value → Value → Value → Value → Value → M) (ρ : Nat → Value) => l (ρ 0) (ρ 1) (ρ 5) (ρ 6) (ρ 7) (ρ 8)) h (fun ρ w h => h) (fun nx self4 L4 ρ w h => ?_)
            unfold f4_b4 at h
            refine wp_seq ?_
            refine wp_seq ?_
            refine L_region ?_
            refine L_mv ?_
            refine L_mv ?_
            refine L_u (P_le h) ?_
            intro v w h
            refine L_nil ?_
            refine E_n ?_
            refine C_cnd h (fun h => ?_) (fun h => ?_)
            · refine C_skip ?_
              refine E_n ?_
              refine wp_seq ?_
              refine C_blk ?_
              refine wp_seq ?_
              refine L_region ?_
              refine L_mv ?_
              refine L_mv ?_
              refine L_u (N_cl Try.func13 rfl nn13 (fun w Q h => s13 _ _ w Q h) h) ?_
              intro v w h
              refine L_mv ?_
              refine L_mv ?_
              refine L_u (N_cl Try.func22 rfl nn22 (fun w Q h => s22 _ _ w Q h) h) ?_
              intro v w h
              refine L_u (P_nes h) ?_
              intro v w h
              refine L_nil ?_
              refine E_n ?_
              refine C_cnd h (fun h => ?_) (fun h => ?_)
              · refine wp_seq ?_
                refine L_region ?_
                refine L_as ?_
                refine L_nil ?_
                refine E_n ?_
                refine C_ret ?_
                show bodyPost Try.prog Try.f4 (Rt Q) .ret _ _
                exact post_tmps (ts := [4]) (.inr rfl) rfl h
              · refine C_skip ?_
                refine B_n ?_
                refine E_n ?_
                refine L_region ?_
                refine L_mv ?_
                refine L_u (P_ad h) ?_
                intro v w h
                refine L_as ?_
                refine L_nil ?_
                refine E_n ?_
                exact L4 _ _ h
            · refine C_exit ?_
              refine E_x ?_
              refine E_x ?_
              refine B_x ?_
              exact J3 _ _ h
          · unfold f4_j3 at h
            refine B_n ?_
            refine E_n ?_
            refine L_region ?_
            refine L_mv ?_
            refine L_u (P_ad h) ?_
            intro v w h
            refine L_as ?_
            refine L_nil ?_
            refine E_n ?_
            exact L2 _ _ h
      · refine C_exit ?_
        refine E_x ?_
        refine E_x ?_
        refine B_x ?_
        exact J1 _ _ h
    · unfold f4_j1 at h
      refine E_n ?_
      refine wp_seq ?_
      refine L_region ?_
      refine L_mv ?_
      refine L_u (N_cl Try.func11 rfl nn11 (fun w Q h => s11 _ w Q h) h) ?_
      intro v w h
      refine L_mv ?_
      refine L_u (P_eqi h) ?_
      intro v w h
      refine L_as ?_
      refine L_nil ?_
      refine E_n ?_
      refine C_ret ?_
      show bodyPost Try.prog Try.f4 (Rt Q) .ret _ _
      exact post_tmps (ts := [4]) (.inr rfl) rfl h

/- factotum/factotumlaw04.played -/
def f23_b2 (j1 : Value → M) (self2 : Value → Value → Value → M) (t1_1 t5 t6 : Value) : M :=
  lnl t1_1 fun t11 =>
  lt .i64 t6 t11 fun t12 =>
  cnd t12 (
    ia 5 t1_1 t6 fun t18 =>
    ldn 5 t18 fun t19 =>
    cl (f18 t5 t19) fun t20 =>
    ad .i64 t6 (.int .i64 1) fun t14 =>
    self2 t1_1 t5 t14
    ) (
    j1 t5
    )
def f23_j1 (t5_1 : Value) : M :=
  rt t5_1
def f23 (t0 t1 : Value) : M :=
  cl (f10 t0) fun t8 =>
  jn (fun (j1 : Value → M) =>
    lo (fun _ _ _ => bot) (f23_b2 j1) (fun l => l t1 t8 (.int .i64 0))
    ) (f23_j1)
theorem s23 (t0 t1 : Value) (w : World) (Q : Value → World → Prop) (h : f23 t0 t1 w Q) : Calls Try.prog 23 #[t0, t1] w (Rt Q) := by
  refine calls_of (l := [t0, t1]) Try.func23 rfl Try.ntmps23 (Nat.le_of_ble_eq_true rfl) ?_
  unfold f23 at h
  refine wp_seq ?_
  refine L_region ?_
  refine L_as ?_
  refine L_nil ?_
  refine E_n ?_
  refine wp_seq ?_
  refine L_region ?_
  refine L_mv ?_
  refine L_u (N_cl Try.func10 rfl nn10 (fun w Q h => s10 _ w Q h) h) ?_
  intro v w h
  refine L_as ?_
  refine L_nil ?_
  refine E_n ?_
  refine wp_seq ?_
  refine wp_seq ?_
  refine L_region ?_
  refine L_as ?_
  refine L_nil ?_
  refine E_n ?_
  refine C_join (fun (k : Value → M) (ρ : Nat → Value) => k (ρ 5)) h (fun j1 J1 h => ?_) (fun ρ w h => ?_)
  · refine C_blk ?_
    refine C_lo (fun (l : Value → Value → Value → M) (ρ : Nat → Value) => l (ρ 1) (ρ 5) (ρ 6)) h (fun ρ w h => h) (fun nx self2 L2 ρ w h => ?_)
    unfold f23_b2 at h
    refine wp_seq ?_
    refine wp_seq ?_
    refine L_region ?_
    refine L_mv ?_
    refine L_mv ?_
    refine L_u (P_lnl is32 h) ?_
    intro v w h
    refine L_u (P_lt h) ?_
    intro v w h
    refine L_nil ?_
    refine E_n ?_
    refine C_cnd h (fun h => ?_) (fun h => ?_)
    · refine C_skip ?_
      refine E_n ?_
      refine wp_seq ?_
      refine C_blk ?_
      refine L_region ?_
      refine L_mv ?_
      refine L_mv ?_
      refine L_mv ?_
      refine L_u (P_ia se32 h) ?_
      intro v w h
      refine L_u (P_ldn ag40 h) ?_
      intro v w h
      refine L_u (N_cl Try.func18 rfl nn18 (fun w Q h => s18 _ _ w Q h) h) ?_
      intro v w h
      refine L_nil ?_
      refine B_n ?_
      refine E_n ?_
      refine L_region ?_
      refine L_mv ?_
      refine L_u (P_ad h) ?_
      intro v w h
      refine L_as ?_
      refine L_nil ?_
      refine E_n ?_
      exact L2 _ _ h
    · refine C_exit ?_
      refine E_x ?_
      refine E_x ?_
      refine B_x ?_
      exact J1 _ _ h
  · unfold f23_j1 at h
    refine E_n ?_
    refine wp_seq ?_
    refine L_region ?_
    refine L_mv ?_
    refine L_as ?_
    refine L_nil ?_
    refine E_n ?_
    refine C_ret ?_
    show bodyPost Try.prog Try.f23 (Rt Q) .ret _ _
    exact post_tmps (ts := [4]) (.inr rfl) rfl h

/- factotum/factotumlaw04.DeviceSure -/
def f5_b2 (j1 : Value → Value → Value → Value → Value → M) (self2 : Value → Value → Value → Value → Value → Value → M) (t1_1 t5_1 t7 t8 t9 t10 : Value) : M :=
  lt .i64 t10 (.int .i64 8) fun t33 =>
  cnd t33 (
    cl (f13 t7 t10) fun t39 =>
    sm Try.prog (Instr.buildSlice 50 1 #[(0, t39)]) fun t40 =>
    sm Try.prog (Builtin.append_ #[50, 50] 50 #[t8, t40]) fun t41 =>
    ad .i64 t10 (.int .i64 1) fun t35 =>
    self2 t1_1 t5_1 t7 t41 t9 t35
    ) (
    j1 t1_1 t5_1 t7 t8 t9
    )
def f5_j5 (self4 : Value → Value → Value → Value → Value → Value → M) (t1_4 t5_4 t7_3 t8_3 t9_3 t11_1 : Value) : M :=
  ad .i64 t11_1 (.int .i64 1) fun t47 =>
  self4 t1_4 t5_4 t7_3 t8_3 t9_3 t47
def f5_b4 (j3 : Value → Value → Value → Value → M) (self4 : Value → Value → Value → Value → Value → Value → M) (t1_3 t5_3 t7_2 t8_2 t9_2 t11 : Value) : M :=
  lnl t1_3 fun t44 =>
  lt .i64 t11 t44 fun t45 =>
  cnd t45 (
    ia 5 t1_3 t11 fun t50 =>
    ldn 5 t50 fun t51 =>
    cl (f26 t51) fun t52 =>
    eqi .i64 t52 (.int .i64 0) fun t53 =>
    jn (fun (j5 : Value → Value → Value → Value → Value → Value → M) =>
      cnd t53 (
        ia 5 t1_3 t11 fun t57 =>
        ldn 5 t57 fun t58 =>
        cl (f18 t7_2 t58) fun t59 =>
        j5 t1_3 t5_3 t7_2 t8_2 t9_2 t11
        ) (
        j5 t1_3 t5_3 t7_2 t8_2 t9_2 t11
        )
      ) (f5_j5 self4)
    ) (
    j3 t5_3 t7_2 t8_2 t9_2
    )
def f5_b7 (j6 : Value → Value → Value → Value → M) (self7 : Value → Value → Value → Value → Value → M) (t5_6 t7_5 t8_5 t9_5 t12 : Value) : M :=
  lt .i64 t12 (.int .i64 8) fun t61 =>
  cnd t61 (
    cl (f13 t7_5 t12) fun t67 =>
    sm Try.prog (Instr.buildSlice 50 1 #[(0, t67)]) fun t68 =>
    sm Try.prog (Builtin.append_ #[50, 50] 50 #[t9_5, t68]) fun t69 =>
    ad .i64 t12 (.int .i64 1) fun t63 =>
    self7 t5_6 t7_5 t8_5 t69 t63
    ) (
    j6 t5_6 t7_5 t8_5 t9_5
    )
def f5_b11 (j10 : Value → Value → Value → Value → Value → Value → Value → M) (self11 : Value → Value → Value → Value → Value → Value → Value → Value → M) (t7_8 t8_8 t9_8 t13_1 t14_1 t15 t16 t17 : Value) : M :=
  lnl t13_1 fun t89 =>
  lt .i64 t17 t89 fun t90 =>
  cnd t90 (
    gd t16 false (idv t13_1) fun t95 =>
    gd t16 false (idv t17) fun t96 =>
    gd t16 false (ia 1 t95 t96) fun t97 =>
    gd t16 false (ld t97) fun t98 =>
    gd t16 false (idv t14_1) fun t99 =>
    gd t16 false (eqi .i64 t98 t99) fun t100 =>
    pk t16 (.bool true) t100 fun t101 =>
    ad .i64 t17 (.int .i64 1) fun t92 =>
    self11 t7_8 t8_8 t9_8 t13_1 t14_1 t15 t101 t92
    ) (
    j10 t7_8 t8_8 t9_8 t13_1 t14_1 t15 t16
    )
def f5_b13 (j12 : Value → Value → Value → Value → Value → M) (self13 : Value → Value → Value → Value → Value → Value → Value → M) (t7_10 t8_10 t9_10 t13_3 t14_3 t15_2 t18 : Value) : M :=
  lns t15_2 fun t119 =>
  lt .i64 t18 t119 fun t120 =>
  cnd t120 (
    dr <|
    idv t15_2 fun t123 =>
    idv t18 fun t124 =>
    ixs t123 t124 fun t125 =>
    idv t8_10 fun t126 =>
    idv t14_3 fun t127 =>
    ia 1 t126 t127 fun t128 =>
    ld t128 fun t129 =>
    idv t18 fun t130 =>
    ixs t129 t130 fun t131 =>
    nei .u8 t125 t131 fun t132 =>
    idv t132 fun t133 =>
    gd t133 true (idv t15_2) fun t134 =>
    gd t133 true (idv t18) fun t135 =>
    gd t133 true (ixs t134 t135) fun t136 =>
    gd t133 true (idv t9_10) fun t137 =>
    gd t133 true (idv t14_3) fun t138 =>
    gd t133 true (ia 1 t137 t138) fun t139 =>
    gd t133 true (ld t139) fun t140 =>
    gd t133 true (idv t18) fun t141 =>
    gd t133 true (ixs t140 t141) fun t142 =>
    gd t133 true (nei .u8 t136 t142) fun t143 =>
    pk t133 t143 (.bool false) fun t144 =>
    cnd t144 (
      rt (.bool false)
      ) (
      ad .i64 t18 (.int .i64 1) fun t122 =>
      self13 t7_10 t8_10 t9_10 t13_3 t14_3 t15_2 t122
      )
    ) (
    j12 t7_10 t8_10 t9_10 t13_3 t14_3
    )
def f5_j12 (self9 : Value → Value → Value → Value → Value → M) (t7_11 t8_11 t9_11 t13_4 t14_4 : Value) : M :=
  ad .i64 t14_4 (.int .i64 1) fun t83 =>
  self9 t7_11 t8_11 t9_11 t13_4 t83
def f5_j10 (self9 : Value → Value → Value → Value → Value → M) (t7_9 t8_9 t9_9 t13_2 t14_2 t15_1 t16_1 : Value) : M :=
  nt t16_1 fun t103 =>
  gd t103 true (idv t15_1) fun t105 =>
  gd t103 true (idv t8_9) fun t106 =>
  gd t103 true (idv t14_2) fun t107 =>
  gd t103 true (ia 1 t106 t107) fun t108 =>
  gd t103 true (ld t108) fun t109 =>
  gd t103 true (nes t105 t109) fun t110 =>
  pk t103 t110 (.bool false) fun t111 =>
  gd t111 false (idv t15_1) fun t113 =>
  gd t111 false (lns t113) fun t114 =>
  gd t111 false (nei .i64 t114 (.int .i64 64)) fun t115 =>
  pk t111 (.bool true) t115 fun t116 =>
  cnd t116 (
    rt (.bool false)
    ) (
    jn (fun (j12 : Value → Value → Value → Value → Value → M) =>
      lo (fun _ _ _ _ _ _ _ => bot) (f5_b13 j12) (fun l => l t7_9 t8_9 t9_9 t13_2 t14_2 t15_1 (.int .i64 0))
      ) (f5_j12 self9)
    )
def f5_b9 (j8 : Value → M) (self9 : Value → Value → Value → Value → Value → M) (t7_7 t8_7 t9_7 t13 t14 : Value) : M :=
  lt .i64 t14 (.int .i64 8) fun t81 =>
  cnd t81 (
    cl (f13 t7_7 t14) fun t86 =>
    jn (fun (j10 : Value → Value → Value → Value → Value → Value → Value → M) =>
      lo (fun _ _ _ _ _ _ _ _ => bot) (f5_b11 j10) (fun l => l t7_7 t8_7 t9_7 t13 t14 t86 (.bool false) (.int .i64 0))
      ) (f5_j10 self9)
    ) (
    j8 t7_7
    )
def f5_j8 (t7_12 : Value) : M :=
  cl (f14 t7_12) fun t146 =>
  lnl t146 fun t147 =>
  eqi .i64 t147 (.int .i64 0) fun t148 =>
  rt t148
def f5_j6 (t5_7 t7_6 t8_6 t9_6 : Value) : M :=
  cl (f14 t7_6) fun t71 =>
  fa 3 t5_7 fun t73 =>
  ld t73 fun t74 =>
  fa 1 t5_7 fun t75 =>
  ld t75 fun t76 =>
  fa 4 t5_7 fun t77 =>
  ld t77 fun t78 =>
  cl (f24 t7_6 t74 t76 t78) fun t79 =>
  jn (fun (j8 : Value → M) =>
    lo (fun _ _ _ _ _ => bot) (f5_b9 j8) (fun l => l t7_6 t8_6 t9_6 t71 (.int .i64 0))
    ) (f5_j8)
def f5_j3 (t5_5 t7_4 t8_4 t9_4 : Value) : M :=
  jn (fun (j6 : Value → Value → Value → Value → M) =>
    lo (fun _ _ _ _ _ => bot) (f5_b7 j6) (fun l => l t5_5 t7_4 t8_4 t9_4 (.int .i64 0))
    ) (f5_j6)
def f5_j1 (t1_2 t5_2 t7_1 t8_1 t9_1 : Value) : M :=
  jn (fun (j3 : Value → Value → Value → Value → M) =>
    lo (fun _ _ _ _ _ _ => bot) (f5_b4 j3) (fun l => l t1_2 t5_2 t7_1 t8_1 t9_1 (.int .i64 0))
    ) (f5_j3)
def f5 (t0 t1 t2 : Value) : M :=
  bx 40 t2 fun t5 =>
  cl (f9) fun t19 =>
  nt t19 fun t20 =>
  cnd t20 (
    rt (.bool false)
    ) (
    cl (f16 t0) fun t22 =>
    cl (f16 t1) fun t24 =>
    cl (f23 (.int .i64 8) t22) fun t26 =>
    cl (f24 t26 (.slice none 0 0) (.int .i64 (-1)) (.int .i64 0)) fun t28 =>
    cl (f25 t26) fun t30 =>
    nei .i64 t30 (.int .i64 0) fun t31 =>
    cnd t31 (
      rt (.bool false)
      ) (
      jn (fun (j1 : Value → Value → Value → Value → Value → M) =>
        lo (fun _ _ _ _ _ _ => bot) (f5_b2 j1) (fun l => l t24 t5 t26 (.slice none 0 0) (.slice none 0 0) (.int .i64 0))
        ) (f5_j1)
      )
    )
theorem s5 (t0 t1 t2 : Value) (w : World) (Q : Value → World → Prop) (h : f5 t0 t1 t2 w Q) : Calls Try.prog 5 #[t0, t1, t2] w (Rt Q) := by
  refine calls_of (l := [t0, t1, t2]) Try.func5 rfl Try.ntmps5 (Nat.le_of_ble_eq_true rfl) ?_
  unfold f5 at h
  refine wp_seq ?_
  refine L_region ?_
  refine L_u (P_bx h) ?_
  intro v w h
  refine L_as ?_
  refine L_nil ?_
  refine E_n ?_
  refine wp_seq ?_
  refine wp_seq ?_
  refine L_region ?_
  refine L_u (N_cl Try.func9 rfl nn9 (fun w Q h => s9 w Q h) h) ?_
  intro v w h
  refine L_u (P_nt h) ?_
  intro v w h
  refine L_nil ?_
  refine E_n ?_
  refine C_cnd h (fun h => ?_) (fun h => ?_)
  · refine wp_seq ?_
    refine L_region ?_
    refine L_as ?_
    refine L_nil ?_
    refine E_n ?_
    refine C_ret ?_
    show bodyPost Try.prog Try.f5 (Rt Q) .ret _ _
    exact post_tmps (ts := [6]) (.inr rfl) rfl h
  · refine C_skip ?_
    refine E_n ?_
    refine wp_seq ?_
    refine L_region ?_
    refine L_mv ?_
    refine L_u (N_cl Try.func16 rfl nn16 (fun w Q h => s16 _ w Q h) h) ?_
    intro v w h
    refine L_mv ?_
    refine L_u (N_cl Try.func16 rfl nn16 (fun w Q h => s16 _ w Q h) h) ?_
    intro v w h
    refine L_as ?_
    refine L_as ?_
    refine L_nil ?_
    refine E_n ?_
    refine wp_seq ?_
    refine L_region ?_
    refine L_mv ?_
    refine L_u (N_cl Try.func23 rfl nn23 (fun w Q h => s23 _ _ w Q h) h) ?_
    intro v w h
    refine L_as ?_
    refine L_nil ?_
    refine E_n ?_
    refine wp_seq ?_
    refine L_region ?_
    refine L_mv ?_
    refine L_u (N_cl Try.func24 rfl nn24 (fun w Q h => s24 _ _ _ _ w Q h) h) ?_
    intro v w h
    refine L_nil ?_
    refine E_n ?_
    refine wp_seq ?_
    refine wp_seq ?_
    refine L_region ?_
    refine L_mv ?_
    refine L_u (N_cl Try.func25 rfl nn25 (fun w Q h => s25 _ w Q h) h) ?_
    intro v w h
    refine L_u (P_nei h) ?_
    intro v w h
    refine L_nil ?_
    refine E_n ?_
    refine C_cnd h (fun h => ?_) (fun h => ?_)
    · refine wp_seq ?_
      refine L_region ?_
      refine L_as ?_
      refine L_nil ?_
      refine E_n ?_
      refine C_ret ?_
      show bodyPost Try.prog Try.f5 (Rt Q) .ret _ _
      exact post_tmps (ts := [6]) (.inr rfl) rfl h
    · refine C_skip ?_
      refine E_n ?_
      refine wp_seq ?_
      refine L_region ?_
      refine L_as ?_
      refine L_as ?_
      refine L_nil ?_
      refine E_n ?_
      refine wp_seq ?_
      refine wp_seq ?_
      refine L_region ?_
      refine L_as ?_
      refine L_nil ?_
      refine E_n ?_
      refine C_join (fun (k : Value → Value → Value → Value → Value → M) (ρ : Nat → Value) => k (ρ 1) (ρ 5) (ρ 7) (ρ 8) (ρ 9)) h (fun j1 J1 h => ?_) (fun ρ w h => ?_)
      · refine C_blk ?_
        refine C_lo (fun (l : Value → Value → Value → Value → Value → Value → M) (ρ : Nat → Value) => l (ρ 1) (ρ 5) (ρ 7) (ρ 8) (ρ 9) (ρ 10)) h (fun ρ w h => h) (fun nx self2 L2 ρ w h => ?_)
        unfold f5_b2 at h
        refine wp_seq ?_
        refine wp_seq ?_
        refine L_region ?_
        refine L_mv ?_
        refine L_u (P_lt h) ?_
        intro v w h
        refine L_nil ?_
        refine E_n ?_
        refine C_cnd h (fun h => ?_) (fun h => ?_)
        · refine C_skip ?_
          refine E_n ?_
          refine wp_seq ?_
          refine C_blk ?_
          refine L_region ?_
          refine L_mv ?_
          refine L_mv ?_
          refine L_mv ?_
          refine L_u (N_cl Try.func13 rfl nn13 (fun w Q h => s13 _ _ w Q h) h) ?_
          intro v w h
          refine L_u (N_bsl h) ?_
          intro v w h
          refine L_u (N_bi rfl h) ?_
          intro v w h
          refine L_as ?_
          refine L_nil ?_
          refine B_n ?_
          refine E_n ?_
          refine L_region ?_
          refine L_mv ?_
          refine L_u (P_ad h) ?_
          intro v w h
          refine L_as ?_
          refine L_nil ?_
          refine E_n ?_
          exact L2 _ _ h
        · refine C_exit ?_
          refine E_x ?_
          refine E_x ?_
          refine B_x ?_
          exact J1 _ _ h
      · unfold f5_j1 at h
        refine E_n ?_
        refine wp_seq ?_
        refine wp_seq ?_
        refine L_region ?_
        refine L_as ?_
        refine L_nil ?_
        refine E_n ?_
        refine C_join (fun (k : Value → Value → Value → Value → M) (ρ : Nat → Value) => k (ρ 5) (ρ 7) (ρ 8) (ρ 9)) h (fun j3 J3 h => ?_) (fun ρ w h => ?_)
        · refine C_blk ?_
          refine C_lo (fun (l : Value → Value → Value → Value → Value → Value → M) (ρ : Nat → Value) => l (ρ 1) (ρ 5) (ρ 7) (ρ 8) (ρ 9) (ρ 11)) h (fun ρ w h => h) (fun nx self4 L4 ρ w h => ?_)
          unfold f5_b4 at h
          refine wp_seq ?_
          refine wp_seq ?_
          refine L_region ?_
          refine L_mv ?_
          refine L_mv ?_
          refine L_u (P_lnl is32 h) ?_
          intro v w h
          refine L_u (P_lt h) ?_
          intro v w h
          refine L_nil ?_
          refine E_n ?_
          refine C_cnd h (fun h => ?_) (fun h => ?_)
          · refine C_skip ?_
            refine E_n ?_
            refine wp_seq ?_
            refine C_blk ?_
            refine wp_seq ?_
            refine L_region ?_
            refine L_mv ?_
            refine L_mv ?_
            refine L_u (P_ia se32 h) ?_
            intro v w h
            refine L_u (P_ldn ag40 h) ?_
            intro v w h
            refine L_u (N_cl Try.func26 rfl nn26 (fun w Q h => s26 _ w Q h) h) ?_
            intro v w h
            refine L_u (P_eqi h) ?_
            intro v w h
            refine L_nil ?_
            refine E_n ?_
            refine C_join (fun (k : Value → Value → Value → Value → Value → Value → M) (ρ : Nat → Value) => k (ρ 1) (ρ 5) (ρ 7) (ρ 8) (ρ 9) (ρ 11)) h (fun j5 J5 h => ?_) (fun ρ w h => ?_)
            · refine C_cnd h (fun h => ?_) (fun h => ?_)
              · refine L_region ?_
                refine L_mv ?_
                refine L_mv ?_
                refine L_mv ?_
                refine L_u (P_ia se32 h) ?_
                intro v w h
                refine L_u (P_ldn ag40 h) ?_
                intro v w h
                refine L_u (N_cl Try.func18 rfl nn18 (fun w Q h => s18 _ _ w Q h) h) ?_
                intro v w h
                refine L_nil ?_
                exact J5 _ _ h
              · refine C_skip ?_
                exact J5 _ _ h
            · unfold f5_j5 at h
              refine B_n ?_
              refine E_n ?_
              refine L_region ?_
              refine L_mv ?_
              refine L_u (P_ad h) ?_
              intro v w h
              refine L_as ?_
              refine L_nil ?_
              refine E_n ?_
              exact L4 _ _ h
          · refine C_exit ?_
            refine E_x ?_
            refine E_x ?_
            refine B_x ?_
            exact J3 _ _ h
        · unfold f5_j3 at h
          refine E_n ?_
          refine wp_seq ?_
          refine wp_seq ?_
          refine L_region ?_
          refine L_as ?_
          refine L_nil ?_
          refine E_n ?_
          refine C_join (fun (k : Value → Value → Value → Value → M) (ρ : Nat → Value) => k (ρ 5) (ρ 7) (ρ 8) (ρ 9)) h (fun j6 J6 h => ?_) (fun ρ w h => ?_)
          · refine C_blk ?_
            refine C_lo (fun (l : Value → Value → Value → Value → Value → M) (ρ : Nat → Value) => l (ρ 5) (ρ 7) (ρ 8) (ρ 9) (ρ 12)) h (fun ρ w h => h) (fun nx self7 L7 ρ w h => ?_)
            unfold f5_b7 at h
            refine wp_seq ?_
            refine wp_seq ?_
            refine L_region ?_
            refine L_mv ?_
            refine L_u (P_lt h) ?_
            intro v w h
            refine L_nil ?_
            refine E_n ?_
            refine C_cnd h (fun h => ?_) (fun h => ?_)
            · refine C_skip ?_
              refine E_n ?_
              refine wp_seq ?_
              refine C_blk ?_
              refine L_region ?_
              refine L_mv ?_
              refine L_mv ?_
              refine L_mv ?_
              refine L_u (N_cl Try.func13 rfl nn13 (fun w Q h => s13 _ _ w Q h) h) ?_
              intro v w h
              refine L_u (N_bsl h) ?_
              intro v w h
              refine L_u (N_bi rfl h) ?_
              intro v w h
              refine L_as ?_
              refine L_nil ?_
              refine B_n ?_
              refine E_n ?_
              refine L_region ?_
              refine L_mv ?_
              refine L_u (P_ad h) ?_
              intro v w h
              refine L_as ?_
              refine L_nil ?_
              refine E_n ?_
              exact L7 _ _ h
            · refine C_exit ?_
              refine E_x ?_
              refine E_x ?_
              refine B_x ?_
              exact J6 _ _ h
          · unfold f5_j6 at h
            refine E_n ?_
            refine wp_seq ?_
            refine L_region ?_
            refine L_mv ?_
            refine L_u (N_cl Try.func14 rfl nn14 (fun w Q h => s14 _ w Q h) h) ?_
            intro v w h
            refine L_as ?_
            refine L_nil ?_
            refine E_n ?_
            refine wp_seq ?_
            refine L_region ?_
            refine L_mv ?_
            refine L_u (P_fa fo40_3 h) ?_
            intro v w h
            refine L_u (P_ld sc38 h) ?_
            intro v w h
            refine L_u (P_fa fo40_1 h) ?_
            intro v w h
            refine L_u (P_ld sc3 h) ?_
            intro v w h
            refine L_u (P_fa fo40_4 h) ?_
            intro v w h
            refine L_u (P_ld sc3 h) ?_
            intro v w h
            refine L_u (N_cl Try.func24 rfl nn24 (fun w Q h => s24 _ _ _ _ w Q h) h) ?_
            intro v w h
            refine L_nil ?_
            refine E_n ?_
            refine wp_seq ?_
            refine wp_seq ?_
            refine L_region ?_
            refine L_as ?_
            refine L_nil ?_
            refine E_n ?_
            refine C_join (fun (k : Value → M) (ρ : Nat → Value) => k (ρ 7)) h (fun j8 J8 h => ?_) (fun ρ w h => ?_)
            · refine C_blk ?_
              refine C_lo (fun (l : Value → Value → Value → Value → Value → M) (ρ : Nat → Value) => l (ρ 7) (ρ 8) (ρ 9) (ρ 13) (ρ 14)) h (fun ρ w h => h) (fun nx self9 L9 ρ w h => ?_)
              unfold f5_b9 at h
              refine wp_seq ?_
              refine wp_seq ?_
              refine L_region ?_
              refine L_mv ?_
              refine L_u (P_lt h) ?_
              intro v w h
              refine L_nil ?_
              refine E_n ?_
              refine C_cnd h (fun h => ?_) (fun h => ?_)
              · refine C_skip ?_
                refine E_n ?_
                refine wp_seq ?_
                refine C_blk ?_
                refine wp_seq ?_
                refine L_region ?_
                refine L_mv ?_
                refine L_mv ?_
                refine L_u (N_cl Try.func13 rfl nn13 (fun w Q h => s13 _ _ w Q h) h) ?_
                intro v w h
                refine L_as ?_
                refine L_nil ?_
                refine E_n ?_
                refine wp_seq ?_
                refine L_region ?_
                refine L_as ?_
                refine L_nil ?_
                refine E_n ?_
                refine wp_seq ?_
                refine wp_seq ?_
                refine L_region ?_
                refine L_as ?_
                refine L_nil ?_
                refine E_n ?_
                refine C_join (fun (k : Value → Value → Value → Value → Value → Value → Value → M) (ρ : Nat → Value) => k (ρ 7) (ρ 8) (ρ 9) (ρ 13) (ρ 14) (ρ 15) (ρ 16)) h (fun j10 J10 h => ?_) (fun ρ w h => ?_)
                · refine C_blk ?_
                  refine C_lo (fun (l : Value → Value → Value → Value → Value → Value → Value → Value → M) (ρ : Nat → Value) => l (ρ 7) (ρ 8) (ρ 9) (ρ 13) (ρ 14) (ρ 15) (ρ 16) (ρ 17)) h (fun ρ w h => h) (fun nx self11 L11 ρ w h => ?_)
                  unfold f5_b11 at h
                  refine wp_seq ?_
                  refine wp_seq ?_
                  refine L_region ?_
                  refine L_mv ?_
                  refine L_mv ?_
                  refine L_u (P_lnl is29 h) ?_
                  intro v w h
                  refine L_u (P_lt h) ?_
                  intro v w h
                  refine L_nil ?_
                  refine E_n ?_
                  refine C_cnd h (fun h => ?_) (fun h => ?_)
                  · refine C_skip ?_
                    refine E_n ?_
                    refine wp_seq ?_
                    refine C_blk ?_
                    refine L_region ?_
                    refine L_mv ?_
                    refine L_mv ?_
                    refine L_g (t := 94) h rfl rfl (fun c h => P_mv h c) ?_
                    intro v w h
                    refine L_g (t := 94) h rfl rfl (fun c h => P_mv h c) ?_
                    intro v w h
                    refine L_g (t := 94) h rfl rfl (fun c h => P_ia se29 h c) ?_
                    intro v w h
                    refine L_g (t := 94) h rfl rfl (fun c h => P_ld sc3 h c) ?_
                    intro v w h
                    refine L_g (t := 94) h rfl rfl (fun c h => P_mv h c) ?_
                    intro v w h
                    refine L_g (t := 94) h rfl rfl (fun c h => P_eqi h c) ?_
                    intro v w h
                    refine L_u (P_pk h) ?_
                    intro v w h
                    refine L_as ?_
                    refine L_nil ?_
                    refine B_n ?_
                    refine E_n ?_
                    refine L_region ?_
                    refine L_mv ?_
                    refine L_u (P_ad h) ?_
                    intro v w h
                    refine L_as ?_
                    refine L_nil ?_
                    refine E_n ?_
                    exact L11 _ _ h
                  · refine C_exit ?_
                    refine E_x ?_
                    refine E_x ?_
                    refine B_x ?_
                    exact J10 _ _ h
                · unfold f5_j10 at h
                  refine E_n ?_
                  refine wp_seq ?_
                  refine wp_seq ?_
                  refine L_region ?_
                  refine L_mv ?_
                  refine L_u (P_nt h) ?_
                  intro v w h
                  refine L_mv ?_
                  refine L_g (t := 104) h rfl rfl (fun c h => P_mv h c) ?_
                  intro v w h
                  refine L_g (t := 104) h rfl rfl (fun c h => P_mv h c) ?_
                  intro v w h
                  refine L_g (t := 104) h rfl rfl (fun c h => P_mv h c) ?_
                  intro v w h
                  refine L_g (t := 104) h rfl rfl (fun c h => P_ia se50 h c) ?_
                  intro v w h
                  refine L_g (t := 104) h rfl rfl (fun c h => P_ld sc9 h c) ?_
                  intro v w h
                  refine L_g (t := 104) h rfl rfl (fun c h => P_nes h c) ?_
                  intro v w h
                  refine L_u (P_pk h) ?_
                  intro v w h
                  refine L_mv ?_
                  refine L_g (t := 112) h rfl rfl (fun c h => P_mv h c) ?_
                  intro v w h
                  refine L_g (t := 112) h rfl rfl (fun c h => P_lns st9 h c) ?_
                  intro v w h
                  refine L_g (t := 112) h rfl rfl (fun c h => P_nei h c) ?_
                  intro v w h
                  refine L_u (P_pk h) ?_
                  intro v w h
                  refine L_nil ?_
                  refine E_n ?_
                  refine C_cnd h (fun h => ?_) (fun h => ?_)
                  · refine wp_seq ?_
                    refine L_region ?_
                    refine L_as ?_
                    refine L_nil ?_
                    refine E_n ?_
                    refine C_ret ?_
                    show bodyPost Try.prog Try.f5 (Rt Q) .ret _ _
                    exact post_tmps (ts := [6]) (.inr rfl) rfl h
                  · refine C_skip ?_
                    refine E_n ?_
                    refine wp_seq ?_
                    refine L_region ?_
                    refine L_as ?_
                    refine L_nil ?_
                    refine E_n ?_
                    refine C_join (fun (k : Value → Value → Value → Value → Value → M) (ρ : Nat → Value) => k (ρ 7) (ρ 8) (ρ 9) (ρ 13) (ρ 14)) h (fun j12 J12 h => ?_) (fun ρ w h => ?_)
                    · refine C_blk ?_
                      refine C_lo (fun (l : Value → Value → Value → Value → Value → Value → Value → M) (ρ : Nat → Value) => l (ρ 7) (ρ 8) (ρ 9) (ρ 13) (ρ 14) (ρ 15) (ρ 18)) h (fun ρ w h => h) (fun nx self13 L13 ρ w h => ?_)
                      unfold f5_b13 at h
                      refine wp_seq ?_
                      refine wp_seq ?_
                      refine L_region ?_
                      refine L_mv ?_
                      refine L_mv ?_
                      refine L_u (P_lns st9 h) ?_
                      intro v w h
                      refine L_u (P_lt h) ?_
                      intro v w h
                      refine L_nil ?_
                      refine E_n ?_
                      refine C_cnd h (fun h => ?_) (fun h => ?_)
                      · refine C_skip ?_
                        refine E_n ?_
                        refine wp_seq ?_
                        refine C_blk ?_
                        refine wp_seq ?_
                        refine D_region (by decide +kernel) 22 rfl ?_
                        replace h := dr_e h
                        refine G_p 0 rfl (by decide +kernel) (Y_mv h) ?_
                        intro v h
                        refine G_p 1 rfl (by decide +kernel) (Y_mv h) ?_
                        intro v h
                        refine G_p 2 rfl (by decide +kernel) (Y_ixs st9 h) ?_
                        intro v h
                        refine G_p 3 rfl (by decide +kernel) (Y_mv h) ?_
                        intro v h
                        refine G_p 4 rfl (by decide +kernel) (Y_mv h) ?_
                        intro v h
                        refine G_p 5 rfl (by decide +kernel) (Y_ia se50 h) ?_
                        intro v h
                        refine G_r _ 6 rfl (by decide +kernel) (R_ld sc9 h) ?_
                        intro v h
                        refine G_p 7 rfl (by decide +kernel) (Y_mv h) ?_
                        intro v h
                        refine G_p 8 rfl (by decide +kernel) (Y_ixs st9 h) ?_
                        intro v h
                        refine G_p 9 rfl (by decide +kernel) (Y_nei h) ?_
                        intro v h
                        refine G_p 10 rfl (by decide +kernel) (Y_mv h) ?_
                        intro v h
                        refine G_pg (t := 133) 11 rfl (by decide +kernel) h rfl rfl (fun h => Y_mv h) ?_
                        intro v h
                        refine G_pg (t := 133) 12 rfl (by decide +kernel) h rfl rfl (fun h => Y_mv h) ?_
                        intro v h
                        refine G_pg (t := 133) 13 rfl (by decide +kernel) h rfl rfl (fun h => Y_ixs st9 h) ?_
                        intro v h
                        refine G_pg (t := 133) 14 rfl (by decide +kernel) h rfl rfl (fun h => Y_mv h) ?_
                        intro v h
                        refine G_pg (t := 133) 15 rfl (by decide +kernel) h rfl rfl (fun h => Y_mv h) ?_
                        intro v h
                        refine G_pg (t := 133) 16 rfl (by decide +kernel) h rfl rfl (fun h => Y_ia se50 h) ?_
                        intro v h
                        refine G_rg (t := 133) _ 17 rfl (by decide +kernel) h rfl rfl (fun h => R_ld sc9 h) ?_
                        intro v h
                        refine G_pg (t := 133) 18 rfl (by decide +kernel) h rfl rfl (fun h => Y_mv h) ?_
                        intro v h
                        refine G_pg (t := 133) 19 rfl (by decide +kernel) h rfl rfl (fun h => Y_ixs st9 h) ?_
                        intro v h
                        refine G_pg (t := 133) 20 rfl (by decide +kernel) h rfl rfl (fun h => Y_nei h) ?_
                        intro v h
                        refine G_p 21 rfl (by decide +kernel) (Y_pk h) ?_
                        intro v h
                        refine G_done (by decide +kernel) ?_
                        refine E_n ?_
                        refine C_cnd h (fun h => ?_) (fun h => ?_)
                        · refine wp_seq ?_
                          refine L_region ?_
                          refine L_as ?_
                          refine L_nil ?_
                          refine E_n ?_
                          refine C_ret ?_
                          show bodyPost Try.prog Try.f5 (Rt Q) .ret _ _
                          exact post_tmps (ts := [6]) (.inr rfl) rfl h
                        · refine C_skip ?_
                          refine B_n ?_
                          refine E_n ?_
                          refine L_region ?_
                          refine L_mv ?_
                          refine L_u (P_ad h) ?_
                          intro v w h
                          refine L_as ?_
                          refine L_nil ?_
                          refine E_n ?_
                          exact L13 _ _ h
                      · refine C_exit ?_
                        refine E_x ?_
                        refine E_x ?_
                        refine B_x ?_
                        exact J12 _ _ h
                    · unfold f5_j12 at h
                      refine B_n ?_
                      refine E_n ?_
                      refine L_region ?_
                      refine L_mv ?_
                      refine L_u (P_ad h) ?_
                      intro v w h
                      refine L_as ?_
                      refine L_nil ?_
                      refine E_n ?_
                      exact L9 _ _ h
              · refine C_exit ?_
                refine E_x ?_
                refine E_x ?_
                refine B_x ?_
                exact J8 _ _ h
            · unfold f5_j8 at h
              refine E_n ?_
              refine wp_seq ?_
              refine L_region ?_
              refine L_mv ?_
              refine L_u (N_cl Try.func14 rfl nn14 (fun w Q h => s14 _ w Q h) h) ?_
              intro v w h
              refine L_u (P_lnl is29 h) ?_
              intro v w h
              refine L_u (P_eqi h) ?_
              intro v w h
              refine L_as ?_
              refine L_nil ?_
              refine E_n ?_
              refine C_ret ?_
              show bodyPost Try.prog Try.f5 (Rt Q) .ret _ _
              exact post_tmps (ts := [6]) (.inr rfl) rfl h

/- factotum/factotumlaw04.DeviceTorn -/
def f6_j3 (self2 : Value → Value → Value → Value → M) (t0_2 t3_2 t5_1 t6_1 : Value) : M :=
  ad .i64 t6_1 (.int .i64 1) fun t23 =>
  self2 t0_2 t3_2 t5_1 t23
def f6_b2 (j1 : Value → Value → M) (self2 : Value → Value → Value → Value → M) (t0_1 t3_1 t5 t6 : Value) : M :=
  lnl t0_1 fun t20 =>
  lt .i64 t6 t20 fun t21 =>
  cnd t21 (
    ia 5 t0_1 t6 fun t26 =>
    ldn 5 t26 fun t27 =>
    cl (f26 t27) fun t28 =>
    eqi .i64 t28 (.int .i64 0) fun t29 =>
    jn (fun (j3 : Value → Value → Value → Value → M) =>
      cnd t29 (
        ia 5 t0_1 t6 fun t33 =>
        ldn 5 t33 fun t34 =>
        cl (f18 t5 t34) fun t35 =>
        j3 t0_1 t3_1 t5 t6
        ) (
        j3 t0_1 t3_1 t5 t6
        )
      ) (f6_j3 self2)
    ) (
    j1 t3_1 t5
    )
def f6_b5 (j4 : Value → Value → Value → Value → M) (self5 : Value → Value → Value → Value → Value → M) (t3_4 t5_3 t7 t8 t9 : Value) : M :=
  lt .i64 t9 (.int .i64 8) fun t39 =>
  cnd t39 (
    cl (f13 t5_3 t9) fun t45 =>
    sm Try.prog (Instr.buildSlice 50 1 #[(0, t45)]) fun t46 =>
    sm Try.prog (Builtin.append_ #[50, 50] 50 #[t8, t46]) fun t47 =>
    ad .i64 t9 (.int .i64 1) fun t41 =>
    self5 t3_4 t5_3 t7 t47 t41
    ) (
    j4 t3_4 t5_3 t7 t8
    )
def f6_j8 (self7 : Value → Value → Value → Value → Value → M) (t5_6 t7_3 t8_3 t10_1 t11_1 : Value) : M :=
  ad .i64 t11_1 (.int .i64 1) fun t61 =>
  self7 t5_6 t7_3 t8_3 t10_1 t61
def f6_b7 (j6 : Value → M) (self7 : Value → Value → Value → Value → Value → M) (t5_5 t7_2 t8_2 t10 t11 : Value) : M :=
  lnl t7_2 fun t58 =>
  lt .i64 t11 t58 fun t59 =>
  cnd t59 (
    ia 1 t7_2 t11 fun t65 =>
    ld t65 fun t66 =>
    cl (f13 t5_5 t66) fun t67 =>
    ia 1 t7_2 t11 fun t72 =>
    ld t72 fun t73 =>
    ia 1 t8_2 t73 fun t74 =>
    ld t74 fun t75 =>
    nes t67 t75 fun t76 =>
    gd t76 true (idv t67) fun t78 =>
    gd t76 true (cl (f12 (.string ⟨#[]⟩))) fun t79 =>
    gd t76 true (nes t78 t79) fun t80 =>
    pk t76 t80 (.bool false) fun t81 =>
    jn (fun (j8 : Value → Value → Value → Value → Value → M) =>
      cnd t81 (
        ad .i64 t10 (.int .i64 1) fun t83 =>
        j8 t5_5 t7_2 t8_2 t83 t11
        ) (
        j8 t5_5 t7_2 t8_2 t10 t11
        )
      ) (f6_j8 self7)
    ) (
    j6 t10
    )
def f6_j6 (t10_2 : Value) : M :=
  le .i64 t10_2 (.int .i64 1) fun t85 =>
  rt t85
def f6_j4 (t3_5 t5_4 t7_1 t8_1 : Value) : M :=
  fa 3 t3_5 fun t49 =>
  ld t49 fun t50 =>
  fa 1 t3_5 fun t51 =>
  ld t51 fun t52 =>
  fa 4 t3_5 fun t53 =>
  ld t53 fun t54 =>
  cl (f24 t5_4 t50 t52 t54) fun t55 =>
  jn (fun (j6 : Value → M) =>
    lo (fun _ _ _ _ _ => bot) (f6_b7 j6) (fun l => l t5_4 t7_1 t8_1 (.int .i64 0) (.int .i64 0))
    ) (f6_j6)
def f6_j1 (t3_3 t5_2 : Value) : M :=
  cl (f14 t5_2) fun t37 =>
  jn (fun (j4 : Value → Value → Value → Value → M) =>
    lo (fun _ _ _ _ _ => bot) (f6_b5 j4) (fun l => l t3_3 t5_2 t37 (.slice none 0 0) (.int .i64 0))
    ) (f6_j4)
def f6 (t0 t1 : Value) : M :=
  bx 40 t1 fun t3 =>
  cl (f9) fun t13 =>
  nt t13 fun t14 =>
  cnd t14 (
    rt (.bool false)
    ) (
    cl (f16 t0) fun t16 =>
    cl (f10 (.int .i64 8)) fun t17 =>
    jn (fun (j1 : Value → Value → M) =>
      lo (fun _ _ _ _ => bot) (f6_b2 j1) (fun l => l t16 t3 t17 (.int .i64 0))
      ) (f6_j1)
    )
theorem s6 (t0 t1 : Value) (w : World) (Q : Value → World → Prop) (h : f6 t0 t1 w Q) : Calls Try.prog 6 #[t0, t1] w (Rt Q) := by
  refine calls_of (l := [t0, t1]) Try.func6 rfl Try.ntmps6 (Nat.le_of_ble_eq_true rfl) ?_
  unfold f6 at h
  refine wp_seq ?_
  refine L_region ?_
  refine L_u (P_bx h) ?_
  intro v w h
  refine L_as ?_
  refine L_nil ?_
  refine E_n ?_
  refine wp_seq ?_
  refine wp_seq ?_
  refine L_region ?_
  refine L_u (N_cl Try.func9 rfl nn9 (fun w Q h => s9 w Q h) h) ?_
  intro v w h
  refine L_u (P_nt h) ?_
  intro v w h
  refine L_nil ?_
  refine E_n ?_
  refine C_cnd h (fun h => ?_) (fun h => ?_)
  · refine wp_seq ?_
    refine L_region ?_
    refine L_as ?_
    refine L_nil ?_
    refine E_n ?_
    refine C_ret ?_
    show bodyPost Try.prog Try.f6 (Rt Q) .ret _ _
    exact post_tmps (ts := [4]) (.inr rfl) rfl h
  · refine C_skip ?_
    refine E_n ?_
    refine wp_seq ?_
    refine L_region ?_
    refine L_mv ?_
    refine L_u (N_cl Try.func16 rfl nn16 (fun w Q h => s16 _ w Q h) h) ?_
    intro v w h
    refine L_as ?_
    refine L_nil ?_
    refine E_n ?_
    refine wp_seq ?_
    refine L_region ?_
    refine L_u (N_cl Try.func10 rfl nn10 (fun w Q h => s10 _ w Q h) h) ?_
    intro v w h
    refine L_as ?_
    refine L_nil ?_
    refine E_n ?_
    refine wp_seq ?_
    refine wp_seq ?_
    refine L_region ?_
    refine L_as ?_
    refine L_nil ?_
    refine E_n ?_
    refine C_join (fun (k : Value → Value → M) (ρ : Nat → Value) => k (ρ 3) (ρ 5)) h (fun j1 J1 h => ?_) (fun ρ w h => ?_)
    · refine C_blk ?_
      refine C_lo (fun (l : Value → Value → Value → Value → M) (ρ : Nat → Value) => l (ρ 0) (ρ 3) (ρ 5) (ρ 6)) h (fun ρ w h => h) (fun nx self2 L2 ρ w h => ?_)
      unfold f6_b2 at h
      refine wp_seq ?_
      refine wp_seq ?_
      refine L_region ?_
      refine L_mv ?_
      refine L_mv ?_
      refine L_u (P_lnl is32 h) ?_
      intro v w h
      refine L_u (P_lt h) ?_
      intro v w h
      refine L_nil ?_
      refine E_n ?_
      refine C_cnd h (fun h => ?_) (fun h => ?_)
      · refine C_skip ?_
        refine E_n ?_
        refine wp_seq ?_
        refine C_blk ?_
        refine wp_seq ?_
        refine L_region ?_
        refine L_mv ?_
        refine L_mv ?_
        refine L_u (P_ia se32 h) ?_
        intro v w h
        refine L_u (P_ldn ag40 h) ?_
        intro v w h
        refine L_u (N_cl Try.func26 rfl nn26 (fun w Q h => s26 _ w Q h) h) ?_
        intro v w h
        refine L_u (P_eqi h) ?_
        intro v w h
        refine L_nil ?_
        refine E_n ?_
        refine C_join (fun (k : Value → Value → Value → Value → M) (ρ : Nat → Value) => k (ρ 0) (ρ 3) (ρ 5) (ρ 6)) h (fun j3 J3 h => ?_) (fun ρ w h => ?_)
        · refine C_cnd h (fun h => ?_) (fun h => ?_)
          · refine L_region ?_
            refine L_mv ?_
            refine L_mv ?_
            refine L_mv ?_
            refine L_u (P_ia se32 h) ?_
            intro v w h
            refine L_u (P_ldn ag40 h) ?_
            intro v w h
            refine L_u (N_cl Try.func18 rfl nn18 (fun w Q h => s18 _ _ w Q h) h) ?_
            intro v w h
            refine L_nil ?_
            exact J3 _ _ h
          · refine C_skip ?_
            exact J3 _ _ h
        · unfold f6_j3 at h
          refine B_n ?_
          refine E_n ?_
          refine L_region ?_
          refine L_mv ?_
          refine L_u (P_ad h) ?_
          intro v w h
          refine L_as ?_
          refine L_nil ?_
          refine E_n ?_
          exact L2 _ _ h
      · refine C_exit ?_
        refine E_x ?_
        refine E_x ?_
        refine B_x ?_
        exact J1 _ _ h
    · unfold f6_j1 at h
      refine E_n ?_
      refine wp_seq ?_
      refine L_region ?_
      refine L_mv ?_
      refine L_u (N_cl Try.func14 rfl nn14 (fun w Q h => s14 _ w Q h) h) ?_
      intro v w h
      refine L_as ?_
      refine L_nil ?_
      refine E_n ?_
      refine wp_seq ?_
      refine L_region ?_
      refine L_as ?_
      refine L_nil ?_
      refine E_n ?_
      refine wp_seq ?_
      refine wp_seq ?_
      refine L_region ?_
      refine L_as ?_
      refine L_nil ?_
      refine E_n ?_
      refine C_join (fun (k : Value → Value → Value → Value → M) (ρ : Nat → Value) => k (ρ 3) (ρ 5) (ρ 7) (ρ 8)) h (fun j4 J4 h => ?_) (fun ρ w h => ?_)
      · refine C_blk ?_
        refine C_lo (fun (l : Value → Value → Value → Value → Value → M) (ρ : Nat → Value) => l (ρ 3) (ρ 5) (ρ 7) (ρ 8) (ρ 9)) h (fun ρ w h => h) (fun nx self5 L5 ρ w h => ?_)
        unfold f6_b5 at h
        refine wp_seq ?_
        refine wp_seq ?_
        refine L_region ?_
        refine L_mv ?_
        refine L_u (P_lt h) ?_
        intro v w h
        refine L_nil ?_
        refine E_n ?_
        refine C_cnd h (fun h => ?_) (fun h => ?_)
        · refine C_skip ?_
          refine E_n ?_
          refine wp_seq ?_
          refine C_blk ?_
          refine L_region ?_
          refine L_mv ?_
          refine L_mv ?_
          refine L_mv ?_
          refine L_u (N_cl Try.func13 rfl nn13 (fun w Q h => s13 _ _ w Q h) h) ?_
          intro v w h
          refine L_u (N_bsl h) ?_
          intro v w h
          refine L_u (N_bi rfl h) ?_
          intro v w h
          refine L_as ?_
          refine L_nil ?_
          refine B_n ?_
          refine E_n ?_
          refine L_region ?_
          refine L_mv ?_
          refine L_u (P_ad h) ?_
          intro v w h
          refine L_as ?_
          refine L_nil ?_
          refine E_n ?_
          exact L5 _ _ h
        · refine C_exit ?_
          refine E_x ?_
          refine E_x ?_
          refine B_x ?_
          exact J4 _ _ h
      · unfold f6_j4 at h
        refine E_n ?_
        refine wp_seq ?_
        refine L_region ?_
        refine L_mv ?_
        refine L_u (P_fa fo40_3 h) ?_
        intro v w h
        refine L_u (P_ld sc38 h) ?_
        intro v w h
        refine L_u (P_fa fo40_1 h) ?_
        intro v w h
        refine L_u (P_ld sc3 h) ?_
        intro v w h
        refine L_u (P_fa fo40_4 h) ?_
        intro v w h
        refine L_u (P_ld sc3 h) ?_
        intro v w h
        refine L_u (N_cl Try.func24 rfl nn24 (fun w Q h => s24 _ _ _ _ w Q h) h) ?_
        intro v w h
        refine L_nil ?_
        refine E_n ?_
        refine wp_seq ?_
        refine L_region ?_
        refine L_as ?_
        refine L_nil ?_
        refine E_n ?_
        refine wp_seq ?_
        refine wp_seq ?_
        refine L_region ?_
        refine L_as ?_
        refine L_nil ?_
        refine E_n ?_
        refine C_join (fun (k : Value → M) (ρ : Nat → Value) => k (ρ 10)) h (fun j6 J6 h => ?_) (fun ρ w h => ?_)
        · refine C_blk ?_
          refine C_lo (fun (l : Value → Value → Value → Value → Value → M) (ρ : Nat → Value) => l (ρ 5) (ρ 7) (ρ 8) (ρ 10) (ρ 11)) h (fun ρ w h => h) (fun nx self7 L7 ρ w h => ?_)
          unfold f6_b7 at h
          refine wp_seq ?_
          refine wp_seq ?_
          refine L_region ?_
          refine L_mv ?_
          refine L_mv ?_
          refine L_u (P_lnl is29 h) ?_
          intro v w h
          refine L_u (P_lt h) ?_
          intro v w h
          refine L_nil ?_
          refine E_n ?_
          refine C_cnd h (fun h => ?_) (fun h => ?_)
          · refine C_skip ?_
            refine E_n ?_
            refine wp_seq ?_
            refine C_blk ?_
            refine wp_seq ?_
            refine L_region ?_
            refine L_mv ?_
            refine L_mv ?_
            refine L_mv ?_
            refine L_u (P_ia se29 h) ?_
            intro v w h
            refine L_u (P_ld sc3 h) ?_
            intro v w h
            refine L_u (N_cl Try.func13 rfl nn13 (fun w Q h => s13 _ _ w Q h) h) ?_
            intro v w h
            refine L_as ?_
            refine L_nil ?_
            refine E_n ?_
            refine wp_seq ?_
            refine L_region ?_
            refine L_mv ?_
            refine L_mv ?_
            refine L_mv ?_
            refine L_mv ?_
            refine L_u (P_ia se29 h) ?_
            intro v w h
            refine L_u (P_ld sc3 h) ?_
            intro v w h
            refine L_u (P_ia se50 h) ?_
            intro v w h
            refine L_u (P_ld sc9 h) ?_
            intro v w h
            refine L_u (P_nes h) ?_
            intro v w h
            refine L_mv ?_
            refine L_g (t := 77) h rfl rfl (fun c h => P_mv h c) ?_
            intro v w h
            refine L_g (t := 77) h rfl rfl (fun c h => N_cl Try.func12 rfl nn12 (fun w Q h => s12 _ w Q h) h c) ?_
            intro v w h
            refine L_g (t := 77) h rfl rfl (fun c h => P_nes h c) ?_
            intro v w h
            refine L_u (P_pk h) ?_
            intro v w h
            refine L_nil ?_
            refine E_n ?_
            refine C_join (fun (k : Value → Value → Value → Value → Value → M) (ρ : Nat → Value) => k (ρ 5) (ρ 7) (ρ 8) (ρ 10) (ρ 11)) h (fun j8 J8 h => ?_) (fun ρ w h => ?_)
            · refine C_cnd h (fun h => ?_) (fun h => ?_)
              · refine L_region ?_
                refine L_mv ?_
                refine L_u (P_ad h) ?_
                intro v w h
                refine L_as ?_
                refine L_nil ?_
                exact J8 _ _ h
              · refine C_skip ?_
                exact J8 _ _ h
            · unfold f6_j8 at h
              refine B_n ?_
              refine E_n ?_
              refine L_region ?_
              refine L_mv ?_
              refine L_u (P_ad h) ?_
              intro v w h
              refine L_as ?_
              refine L_nil ?_
              refine E_n ?_
              exact L7 _ _ h
          · refine C_exit ?_
            refine E_x ?_
            refine E_x ?_
            refine B_x ?_
            exact J6 _ _ h
        · unfold f6_j6 at h
          refine E_n ?_
          refine wp_seq ?_
          refine L_region ?_
          refine L_mv ?_
          refine L_u (P_le h) ?_
          intro v w h
          refine L_as ?_
          refine L_nil ?_
          refine E_n ?_
          refine C_ret ?_
          show bodyPost Try.prog Try.f6 (Rt Q) .ret _ _
          exact post_tmps (ts := [4]) (.inr rfl) rfl h

/- factotum/factotumlaw04.DeviceStops -/
def f7_b5 (j4 : Value → Value → Value → Value → Value → Value → Value → M) (self5 : Value → Value → Value → Value → Value → Value → Value → Value → M) (t0_2 t1_2 t5_1 t6_1 t7_1 t8 t9 t10 : Value) : M :=
  lt .i64 t10 (.int .i64 8) fun t50 =>
  cnd t50 (
    cl (f13 t5_1 t10) fun t56 =>
    sm Try.prog (Instr.buildSlice 50 1 #[(0, t56)]) fun t57 =>
    sm Try.prog (Builtin.append_ #[50, 50] 50 #[t9, t57]) fun t58 =>
    ad .i64 t10 (.int .i64 1) fun t52 =>
    self5 t0_2 t1_2 t5_1 t6_1 t7_1 t8 t58 t52
    ) (
    j4 t0_2 t1_2 t5_1 t6_1 t7_1 t8 t9
    )
def f7_b7 (j6 : Value → Value → Value → Value → Value → M) (self7 : Value → Value → Value → Value → Value → Value → Value → Value → M) (t0_4 t1_4 t5_3 t6_3 t7_3 t8_2 t9_2 t11 : Value) : M :=
  lt .i64 t11 (.int .i64 8) fun t60 =>
  gd t60 true (idv t8_2) fun t62 =>
  gd t60 true (eqi .i64 t62 (.int .i64 9)) fun t63 =>
  pk t60 t63 (.bool false) fun t64 =>
  gd t64 true (idv t6_3) fun t66 =>
  gd t64 true (lnl t66) fun t67 =>
  gd t64 true (gt .i64 t67 (.int .i64 0)) fun t68 =>
  pk t64 t68 (.bool false) fun t69 =>
  cnd t69 (
    dr <|
    idv t9_2 fun t72 =>
    idv t11 fun t73 =>
    ia 1 t72 t73 fun t74 =>
    ld t74 fun t75 =>
    idv t6_3 fun t76 =>
    idv t11 fun t77 =>
    ia 1 t76 t77 fun t78 =>
    ld t78 fun t79 =>
    nes t75 t79 fun t80 =>
    cnd t80 (
      rt (.bool false)
      ) (
      ad .i64 t11 (.int .i64 1) fun t71 =>
      self7 t0_4 t1_4 t5_3 t6_3 t7_3 t8_2 t9_2 t71
      )
    ) (
    j6 t0_4 t1_4 t5_3 t7_3 t9_2
    )
def f7_j6 (j3 : Value → Value → Value → Value → Value → M) (t0_5 t1_5 t5_4 t7_4 t9_3 : Value) : M :=
  j3 t0_5 t1_5 t5_4 t9_3 t7_4
def f7_j4 (j3 : Value → Value → Value → Value → Value → M) (t0_3 t1_3 t5_2 t6_2 t7_2 t8_1 t9_1 : Value) : M :=
  jn (fun (j6 : Value → Value → Value → Value → Value → M) =>
    lo (fun _ _ _ _ _ _ _ _ => bot) (f7_b7 j6) (fun l => l t0_3 t1_3 t5_2 t6_2 t7_2 t8_1 t9_1 (.int .i64 0))
    ) (f7_j6 j3)
def f7_j3 (self2 : Value → Value → Value → Value → Value → M) (t0_6 t1_6 t5_5 t6_4 t7_5 : Value) : M :=
  ad .i64 t7_5 (.int .i64 1) fun t29 =>
  self2 t0_6 t1_6 t5_5 t6_4 t29
def f7_b2 (j1 : Value → M) (self2 : Value → Value → Value → Value → Value → M) (t0_1 t1_1 t5 t6 t7 : Value) : M :=
  lnl t0_1 fun t26 =>
  lt .i64 t7 t26 fun t27 =>
  cnd t27 (
    jn (fun (j3 : Value → Value → Value → Value → Value → M) =>
      ia 5 t0_1 t7 fun t32 =>
      ldn 5 t32 fun t33 =>
      cl (f26 t33) fun t34 =>
      gt .i64 t34 (.int .i64 1) fun t35 =>
      cnd t35 (
        j3 t0_1 t1_1 t5 t6 t7
        ) (
        ia 5 t0_1 t7 fun t39 =>
        ldn 5 t39 fun t40 =>
        cl (f18 t5 t40) fun t41 =>
        eqi .i64 t41 (.int .i64 9) fun t43 =>
        cl (f15 t5) fun t45 =>
        gt .i64 t45 t1_1 fun t47 =>
        neb t43 t47 fun t48 =>
        cnd t48 (
          rt (.bool false)
          ) (
          jn (fun (j4 : Value → Value → Value → Value → Value → Value → Value → M) =>
            lo (fun _ _ _ _ _ _ _ _ => bot) (f7_b5 j4) (fun l => l t0_1 t1_1 t5 t6 t7 t41 (.slice none 0 0) (.int .i64 0))
            ) (f7_j4 j3)
          )
        )
      ) (f7_j3 self2)
    ) (
    j1 t5
    )
def f7_j1 (t5_6 : Value) : M :=
  cl (f24 t5_6 (.slice none 0 0) (.int .i64 (-1)) (.int .i64 0)) fun t83 =>
  cl (f28 t5_6 (.int .i64 0) (.string ⟨#[120]⟩)) fun t85 =>
  eqi .i64 t85 (.int .i64 0) fun t86 =>
  gd t86 true (idv t5_6) fun t88 =>
  gd t86 true (cl (f25 t88)) fun t89 =>
  gd t86 true (eqi .i64 t89 (.int .i64 0)) fun t90 =>
  pk t86 t90 (.bool false) fun t91 =>
  gd t91 true (idv t5_6) fun t93 =>
  gd t91 true (cl (f13 t93 (.int .i64 0))) fun t94 =>
  gd t91 true (cl (f12 (.string ⟨#[120]⟩))) fun t95 =>
  gd t91 true (eqs t94 t95) fun t96 =>
  pk t91 t96 (.bool false) fun t97 =>
  rt t97
def f7 (t0 t1 : Value) : M :=
  cl (f9) fun t12 =>
  nt t12 fun t13 =>
  cnd t13 (
    rt (.bool false)
    ) (
    cl (f16 t0) fun t15 =>
    cl (f10 (.int .i64 8)) fun t16 =>
    cv .u64 t1 fun t18 =>
    re .u64 t18 (.int .u64 50) fun t19 =>
    cv .i64 t19 fun t20 =>
    cl (f27 t16 t20) fun t23 =>
    jn (fun (j1 : Value → M) =>
      lo (fun _ _ _ _ _ => bot) (f7_b2 j1) (fun l => l t15 t20 t16 (.slice none 0 0) (.int .i64 0))
      ) (f7_j1)
    )
theorem s7 (t0 t1 : Value) (w : World) (Q : Value → World → Prop) (h : f7 t0 t1 w Q) : Calls Try.prog 7 #[t0, t1] w (Rt Q) := by
  refine calls_of (l := [t0, t1]) Try.func7 rfl Try.ntmps7 (Nat.le_of_ble_eq_true rfl) ?_
  unfold f7 at h
  refine wp_seq ?_
  refine L_region ?_
  refine L_as ?_
  refine L_nil ?_
  refine E_n ?_
  refine wp_seq ?_
  refine wp_seq ?_
  refine L_region ?_
  refine L_u (N_cl Try.func9 rfl nn9 (fun w Q h => s9 w Q h) h) ?_
  intro v w h
  refine L_u (P_nt h) ?_
  intro v w h
  refine L_nil ?_
  refine E_n ?_
  refine C_cnd h (fun h => ?_) (fun h => ?_)
  · refine wp_seq ?_
    refine L_region ?_
    refine L_as ?_
    refine L_nil ?_
    refine E_n ?_
    refine C_ret ?_
    show bodyPost Try.prog Try.f7 (Rt Q) .ret _ _
    exact post_tmps (ts := [4]) (.inr rfl) rfl h
  · refine C_skip ?_
    refine E_n ?_
    refine wp_seq ?_
    refine L_region ?_
    refine L_mv ?_
    refine L_u (N_cl Try.func16 rfl nn16 (fun w Q h => s16 _ w Q h) h) ?_
    intro v w h
    refine L_as ?_
    refine L_nil ?_
    refine E_n ?_
    refine wp_seq ?_
    refine L_region ?_
    refine L_u (N_cl Try.func10 rfl nn10 (fun w Q h => s10 _ w Q h) h) ?_
    intro v w h
    refine L_as ?_
    refine L_nil ?_
    refine E_n ?_
    refine wp_seq ?_
    refine L_region ?_
    refine L_mv ?_
    refine L_u (P_cv ai3 in25 h) ?_
    intro v w h
    refine L_u (P_re h) ?_
    intro v w h
    refine L_u (P_cv ai25 in3 h) ?_
    intro v w h
    refine L_as ?_
    refine L_nil ?_
    refine E_n ?_
    refine wp_seq ?_
    refine L_region ?_
    refine L_mv ?_
    refine L_mv ?_
    refine L_u (N_cl Try.func27 rfl nn27 (fun w Q h => s27 _ _ w Q h) h) ?_
    intro v w h
    refine L_nil ?_
    refine E_n ?_
    refine wp_seq ?_
    refine L_region ?_
    refine L_as ?_
    refine L_nil ?_
    refine E_n ?_
    refine wp_seq ?_
    refine wp_seq ?_
    refine L_region ?_
    refine L_as ?_
    refine L_nil ?_
    refine E_n ?_
    refine C_join (fun (k : Value → M) (ρ : Nat → Value) => k (ρ 5)) h (fun j1 J1 h => ?_) (fun ρ w h => ?_)
    · refine C_blk ?_
      refine C_lo (fun (l : Value → Value → Value → Value → Value → M) (ρ : Nat → Value) => l (ρ 0) (ρ 1) (ρ 5) (ρ 6) (ρ 7)) h (fun ρ w h => h) (fun nx self2 L2 ρ w h => ?_)
      unfold f7_b2 at h
      refine wp_seq ?_
      refine wp_seq ?_
      refine L_region ?_
      refine L_mv ?_
      refine L_mv ?_
      refine L_u (P_lnl is32 h) ?_
      intro v w h
      refine L_u (P_lt h) ?_
      intro v w h
      refine L_nil ?_
      refine E_n ?_
      refine C_cnd h (fun h => ?_) (fun h => ?_)
      · refine C_skip ?_
        refine E_n ?_
        refine wp_seq ?_
        refine C_join (fun (k : Value → Value → Value → Value → Value → M) (ρ : Nat → Value) => k (ρ 0) (ρ 1) (ρ 5) (ρ 6) (ρ 7)) h (fun j3 J3 h => ?_) (fun ρ w h => ?_)
        · refine C_blk ?_
          refine wp_seq ?_
          refine wp_seq ?_
          refine L_region ?_
          refine L_mv ?_
          refine L_mv ?_
          refine L_u (P_ia se32 h) ?_
          intro v w h
          refine L_u (P_ldn ag40 h) ?_
          intro v w h
          refine L_u (N_cl Try.func26 rfl nn26 (fun w Q h => s26 _ w Q h) h) ?_
          intro v w h
          refine L_u (P_gt h) ?_
          intro v w h
          refine L_nil ?_
          refine E_n ?_
          refine C_cnd h (fun h => ?_) (fun h => ?_)
          · refine C_exit ?_
            refine E_x ?_
            refine B_x ?_
            exact J3 _ _ h
          · refine C_skip ?_
            refine E_n ?_
            refine wp_seq ?_
            refine L_region ?_
            refine L_mv ?_
            refine L_mv ?_
            refine L_mv ?_
            refine L_u (P_ia se32 h) ?_
            intro v w h
            refine L_u (P_ldn ag40 h) ?_
            intro v w h
            refine L_u (N_cl Try.func18 rfl nn18 (fun w Q h => s18 _ _ w Q h) h) ?_
            intro v w h
            refine L_as ?_
            refine L_nil ?_
            refine E_n ?_
            refine wp_seq ?_
            refine wp_seq ?_
            refine L_region ?_
            refine L_mv ?_
            refine L_u (P_eqi h) ?_
            intro v w h
            refine L_mv ?_
            refine L_u (N_cl Try.func15 rfl nn15 (fun w Q h => s15 _ w Q h) h) ?_
            intro v w h
            refine L_mv ?_
            refine L_u (P_gt h) ?_
            intro v w h
            refine L_u (P_neb bo4 h) ?_
            intro v w h
            refine L_nil ?_
            refine E_n ?_
            refine C_cnd h (fun h => ?_) (fun h => ?_)
            · refine wp_seq ?_
              refine L_region ?_
              refine L_as ?_
              refine L_nil ?_
              refine E_n ?_
              refine C_ret ?_
              show bodyPost Try.prog Try.f7 (Rt Q) .ret _ _
              exact post_tmps (ts := [4]) (.inr rfl) rfl h
            · refine C_skip ?_
              refine E_n ?_
              refine wp_seq ?_
              refine L_region ?_
              refine L_as ?_
              refine L_nil ?_
              refine E_n ?_
              refine wp_seq ?_
              refine wp_seq ?_
              refine L_region ?_
              refine L_as ?_
              refine L_nil ?_
              refine E_n ?_
              refine C_join (fun (k : Value → Value → Value → Value → Value → Value → Value → M) (ρ : Nat → Value) => k (ρ 0) (ρ 1) (ρ 5) (ρ 6) (ρ 7) (ρ 8) (ρ 9)) h (fun j4 J4 h => ?_) (fun ρ w h => ?_)
              · refine C_blk ?_
                refine C_lo (fun (l : Value → Value → Value → Value → Value → Value → Value → Value → M) (ρ : Nat → Value) => l (ρ 0) (ρ 1) (ρ 5) (ρ 6) (ρ 7) (ρ 8) (ρ 9) (ρ 10)) h (fun ρ w h => h) (fun nx self5 L5 ρ w h => ?_)
                unfold f7_b5 at h
                refine wp_seq ?_
                refine wp_seq ?_
                refine L_region ?_
                refine L_mv ?_
                refine L_u (P_lt h) ?_
                intro v w h
                refine L_nil ?_
                refine E_n ?_
                refine C_cnd h (fun h => ?_) (fun h => ?_)
                · refine C_skip ?_
                  refine E_n ?_
                  refine wp_seq ?_
                  refine C_blk ?_
                  refine L_region ?_
                  refine L_mv ?_
                  refine L_mv ?_
                  refine L_mv ?_
                  refine L_u (N_cl Try.func13 rfl nn13 (fun w Q h => s13 _ _ w Q h) h) ?_
                  intro v w h
                  refine L_u (N_bsl h) ?_
                  intro v w h
                  refine L_u (N_bi rfl h) ?_
                  intro v w h
                  refine L_as ?_
                  refine L_nil ?_
                  refine B_n ?_
                  refine E_n ?_
                  refine L_region ?_
                  refine L_mv ?_
                  refine L_u (P_ad h) ?_
                  intro v w h
                  refine L_as ?_
                  refine L_nil ?_
                  refine E_n ?_
                  exact L5 _ _ h
                · refine C_exit ?_
                  refine E_x ?_
                  refine E_x ?_
                  refine B_x ?_
                  exact J4 _ _ h
              · unfold f7_j4 at h
                refine E_n ?_
                refine wp_seq ?_
                refine wp_seq ?_
                refine L_region ?_
                refine L_as ?_
                refine L_nil ?_
                refine E_n ?_
                refine C_join (fun (k : Value → Value → Value → Value → Value → M) (ρ : Nat → Value) => k (ρ 0) (ρ 1) (ρ 5) (ρ 7) (ρ 9)) h (fun j6 J6 h => ?_) (fun ρ w h => ?_)
                · refine C_blk ?_
                  refine C_lo (fun (l : Value → Value → Value → Value → Value → Value → Value → Value → M) (ρ : Nat → Value) => l (ρ 0) (ρ 1) (ρ 5) (ρ 6) (ρ 7) (ρ 8) (ρ 9) (ρ 11)) h (fun ρ w h => h) (fun nx self7 L7 ρ w h => ?_)
                  unfold f7_b7 at h
                  refine wp_seq ?_
                  refine wp_seq ?_
                  refine L_region ?_
                  refine L_mv ?_
                  refine L_u (P_lt h) ?_
                  intro v w h
                  refine L_mv ?_
                  refine L_g (t := 61) h rfl rfl (fun c h => P_mv h c) ?_
                  intro v w h
                  refine L_g (t := 61) h rfl rfl (fun c h => P_eqi h c) ?_
                  intro v w h
                  refine L_u (P_pk h) ?_
                  intro v w h
                  refine L_mv ?_
                  refine L_g (t := 65) h rfl rfl (fun c h => P_mv h c) ?_
                  intro v w h
                  refine L_g (t := 65) h rfl rfl (fun c h => P_lnl is50 h c) ?_
                  intro v w h
                  refine L_g (t := 65) h rfl rfl (fun c h => P_gt h c) ?_
                  intro v w h
                  refine L_u (P_pk h) ?_
                  intro v w h
                  refine L_nil ?_
                  refine E_n ?_
                  refine C_cnd h (fun h => ?_) (fun h => ?_)
                  · refine C_skip ?_
                    refine E_n ?_
                    refine wp_seq ?_
                    refine C_blk ?_
                    refine wp_seq ?_
                    refine D_region (by decide +kernel) 9 rfl ?_
                    replace h := dr_e h
                    refine G_p 0 rfl (by decide +kernel) (Y_mv h) ?_
                    intro v h
                    refine G_p 1 rfl (by decide +kernel) (Y_mv h) ?_
                    intro v h
                    refine G_p 2 rfl (by decide +kernel) (Y_ia se50 h) ?_
                    intro v h
                    refine G_r _ 3 rfl (by decide +kernel) (R_ld sc9 h) ?_
                    intro v h
                    refine G_p 4 rfl (by decide +kernel) (Y_mv h) ?_
                    intro v h
                    refine G_p 5 rfl (by decide +kernel) (Y_mv h) ?_
                    intro v h
                    refine G_p 6 rfl (by decide +kernel) (Y_ia se50 h) ?_
                    intro v h
                    refine G_r _ 7 rfl (by decide +kernel) (R_ld sc9 h) ?_
                    intro v h
                    refine G_p 8 rfl (by decide +kernel) (Y_nes h) ?_
                    intro v h
                    refine G_done (by decide +kernel) ?_
                    refine E_n ?_
                    refine C_cnd h (fun h => ?_) (fun h => ?_)
                    · refine wp_seq ?_
                      refine L_region ?_
                      refine L_as ?_
                      refine L_nil ?_
                      refine E_n ?_
                      refine C_ret ?_
                      show bodyPost Try.prog Try.f7 (Rt Q) .ret _ _
                      exact post_tmps (ts := [4]) (.inr rfl) rfl h
                    · refine C_skip ?_
                      refine B_n ?_
                      refine E_n ?_
                      refine L_region ?_
                      refine L_mv ?_
                      refine L_u (P_ad h) ?_
                      intro v w h
                      refine L_as ?_
                      refine L_nil ?_
                      refine E_n ?_
                      exact L7 _ _ h
                  · refine C_exit ?_
                    refine E_x ?_
                    refine E_x ?_
                    refine B_x ?_
                    exact J6 _ _ h
                · unfold f7_j6 at h
                  refine E_n ?_
                  refine L_region ?_
                  refine L_mv ?_
                  refine L_as ?_
                  refine L_nil ?_
                  refine B_n ?_
                  exact J3 _ _ h
        · unfold f7_j3 at h
          refine E_n ?_
          refine L_region ?_
          refine L_mv ?_
          refine L_u (P_ad h) ?_
          intro v w h
          refine L_as ?_
          refine L_nil ?_
          refine E_n ?_
          exact L2 _ _ h
      · refine C_exit ?_
        refine E_x ?_
        refine E_x ?_
        refine B_x ?_
        exact J1 _ _ h
    · unfold f7_j1 at h
      refine E_n ?_
      refine wp_seq ?_
      refine L_region ?_
      refine L_mv ?_
      refine L_u (N_cl Try.func24 rfl nn24 (fun w Q h => s24 _ _ _ _ w Q h) h) ?_
      intro v w h
      refine L_nil ?_
      refine E_n ?_
      refine wp_seq ?_
      refine L_region ?_
      refine L_mv ?_
      refine L_u (N_cl Try.func28 rfl nn28 (fun w Q h => s28 _ _ _ w Q h) h) ?_
      intro v w h
      refine L_u (P_eqi h) ?_
      intro v w h
      refine L_mv ?_
      refine L_g (t := 87) h rfl rfl (fun c h => P_mv h c) ?_
      intro v w h
      refine L_g (t := 87) h rfl rfl (fun c h => N_cl Try.func25 rfl nn25 (fun w Q h => s25 _ w Q h) h c) ?_
      intro v w h
      refine L_g (t := 87) h rfl rfl (fun c h => P_eqi h c) ?_
      intro v w h
      refine L_u (P_pk h) ?_
      intro v w h
      refine L_mv ?_
      refine L_g (t := 92) h rfl rfl (fun c h => P_mv h c) ?_
      intro v w h
      refine L_g (t := 92) h rfl rfl (fun c h => N_cl Try.func13 rfl nn13 (fun w Q h => s13 _ _ w Q h) h c) ?_
      intro v w h
      refine L_g (t := 92) h rfl rfl (fun c h => N_cl Try.func12 rfl nn12 (fun w Q h => s12 _ w Q h) h c) ?_
      intro v w h
      refine L_g (t := 92) h rfl rfl (fun c h => P_eqs h c) ?_
      intro v w h
      refine L_u (P_pk h) ?_
      intro v w h
      refine L_as ?_
      refine L_nil ?_
      refine E_n ?_
      refine C_ret ?_
      show bodyPost Try.prog Try.f7 (Rt Q) .ret _ _
      exact post_tmps (ts := [4]) (.inr rfl) rfl h

/- factotum/factotumlaw04.DeviceNil -/
def f8 (t0 : Value) : M :=
  bx 40 t0 fun t1 =>
  cl (f9) fun t5 =>
  nt t5 fun t6 =>
  cnd t6 (
    rt (.bool false)
    ) (
    ldn 5 t1 fun t8 =>
    cl (f18 (.pointer none) t8) fun t9 =>
    eqi .i64 t9 (.int .i64 1) fun t11 =>
    ldn 5 t1 fun t12 =>
    cl (f26 t12) fun t13 =>
    lt .i64 t13 (.int .i64 2) fun t14 =>
    eqb t11 t14 fun t15 =>
    gd t15 true (idv (.pointer none)) fun t17 =>
    gd t15 true (fa 1 t1) fun t18 =>
    gd t15 true (ld t18) fun t19 =>
    gd t15 true (cl (f13 t17 t19)) fun t20 =>
    gd t15 true (eqs t20 (.string ⟨#[]⟩)) fun t21 =>
    pk t15 t21 (.bool false) fun t22 =>
    gd t22 true (idv (.pointer none)) fun t24 =>
    gd t22 true (cl (f11 t24)) fun t25 =>
    gd t22 true (eqi .i64 t25 (.int .i64 0)) fun t26 =>
    pk t22 t26 (.bool false) fun t27 =>
    gd t27 true (idv (.pointer none)) fun t29 =>
    gd t27 true (cl (f15 t29)) fun t30 =>
    gd t27 true (eqi .i64 t30 (.int .i64 0)) fun t31 =>
    pk t27 t31 (.bool false) fun t32 =>
    gd t32 true (idv (.pointer none)) fun t34 =>
    gd t32 true (cl (f14 t34)) fun t35 =>
    gd t32 true (lnl t35) fun t36 =>
    gd t32 true (eqi .i64 t36 (.int .i64 0)) fun t37 =>
    pk t32 t37 (.bool false) fun t38 =>
    rt t38
    )
theorem s8 (t0 : Value) (w : World) (Q : Value → World → Prop) (h : f8 t0 w Q) : Calls Try.prog 8 #[t0] w (Rt Q) := by
  refine calls_of (l := [t0]) Try.func8 rfl Try.ntmps8 (Nat.le_of_ble_eq_true rfl) ?_
  unfold f8 at h
  refine wp_seq ?_
  refine L_region ?_
  refine L_u (P_bx h) ?_
  intro v w h
  refine L_as ?_
  refine L_nil ?_
  refine E_n ?_
  refine wp_seq ?_
  refine wp_seq ?_
  refine L_region ?_
  refine L_u (N_cl Try.func9 rfl nn9 (fun w Q h => s9 w Q h) h) ?_
  intro v w h
  refine L_u (P_nt h) ?_
  intro v w h
  refine L_nil ?_
  refine E_n ?_
  refine C_cnd h (fun h => ?_) (fun h => ?_)
  · refine wp_seq ?_
    refine L_region ?_
    refine L_as ?_
    refine L_nil ?_
    refine E_n ?_
    refine C_ret ?_
    show bodyPost Try.prog Try.f8 (Rt Q) .ret _ _
    exact post_tmps (ts := [2]) (.inr rfl) rfl h
  · refine C_skip ?_
    refine E_n ?_
    refine wp_seq ?_
    refine L_region ?_
    refine L_as ?_
    refine L_nil ?_
    refine E_n ?_
    refine wp_seq ?_
    refine L_region ?_
    refine L_mv ?_
    refine L_u (P_ldn ag40 h) ?_
    intro v w h
    refine L_u (N_cl Try.func18 rfl nn18 (fun w Q h => s18 _ _ w Q h) h) ?_
    intro v w h
    refine L_as ?_
    refine L_nil ?_
    refine E_n ?_
    refine wp_seq ?_
    refine L_region ?_
    refine L_mv ?_
    refine L_u (P_eqi h) ?_
    intro v w h
    refine L_u (P_ldn ag40 h) ?_
    intro v w h
    refine L_u (N_cl Try.func26 rfl nn26 (fun w Q h => s26 _ w Q h) h) ?_
    intro v w h
    refine L_u (P_lt h) ?_
    intro v w h
    refine L_u (P_eqb bo4 h) ?_
    intro v w h
    refine L_mv ?_
    refine L_g (t := 16) h rfl rfl (fun c h => P_mv h c) ?_
    intro v w h
    refine L_g (t := 16) h rfl rfl (fun c h => P_fa fo40_1 h c) ?_
    intro v w h
    refine L_g (t := 16) h rfl rfl (fun c h => P_ld sc3 h c) ?_
    intro v w h
    refine L_g (t := 16) h rfl rfl (fun c h => N_cl Try.func13 rfl nn13 (fun w Q h => s13 _ _ w Q h) h c) ?_
    intro v w h
    refine L_g (t := 16) h rfl rfl (fun c h => P_eqs h c) ?_
    intro v w h
    refine L_u (P_pk h) ?_
    intro v w h
    refine L_mv ?_
    refine L_g (t := 23) h rfl rfl (fun c h => P_mv h c) ?_
    intro v w h
    refine L_g (t := 23) h rfl rfl (fun c h => N_cl Try.func11 rfl nn11 (fun w Q h => s11 _ w Q h) h c) ?_
    intro v w h
    refine L_g (t := 23) h rfl rfl (fun c h => P_eqi h c) ?_
    intro v w h
    refine L_u (P_pk h) ?_
    intro v w h
    refine L_mv ?_
    refine L_g (t := 28) h rfl rfl (fun c h => P_mv h c) ?_
    intro v w h
    refine L_g (t := 28) h rfl rfl (fun c h => N_cl Try.func15 rfl nn15 (fun w Q h => s15 _ w Q h) h c) ?_
    intro v w h
    refine L_g (t := 28) h rfl rfl (fun c h => P_eqi h c) ?_
    intro v w h
    refine L_u (P_pk h) ?_
    intro v w h
    refine L_mv ?_
    refine L_g (t := 33) h rfl rfl (fun c h => P_mv h c) ?_
    intro v w h
    refine L_g (t := 33) h rfl rfl (fun c h => N_cl Try.func14 rfl nn14 (fun w Q h => s14 _ w Q h) h c) ?_
    intro v w h
    refine L_g (t := 33) h rfl rfl (fun c h => P_lnl is29 h c) ?_
    intro v w h
    refine L_g (t := 33) h rfl rfl (fun c h => P_eqi h c) ?_
    intro v w h
    refine L_u (P_pk h) ?_
    intro v w h
    refine L_as ?_
    refine L_nil ?_
    refine E_n ?_
    refine C_ret ?_
    show bodyPost Try.prog Try.f8 (Rt Q) .ret _ _
    exact post_tmps (ts := [2]) (.inr rfl) rfl h
end Go.Proofs.Ytjaiodbonffciaa
