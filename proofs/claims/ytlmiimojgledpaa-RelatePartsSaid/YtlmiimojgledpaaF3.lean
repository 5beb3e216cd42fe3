/- Functions as predicate transformers, and that the machine does what they say, by program. -/
import Derived.Test.YtlmiimojgledpaaF2
set_option linter.unusedVariables false
set_option maxRecDepth 20000
set_option maxHeartbeats 4000000
namespace Go.Proofs.Ytlmiimojgledpaa
open Sh
attribute [local irreducible] wpL anyG act jn lo gdB amb kp smr nc fa ld ldn st stn ad su mu qu re lt le gt ge eqi nei bws shl shr cat eqs nes lts gts eqb neb nt pk cv al bx ex fld fldn lnl lns ia iaa ixs sls sll sla mif mnm mxm mm asrt sm smu cl cc cf ci cnd gd gdu
/- factotum/factotumref31.Where -/
def f21_j3 (self2 : Value → Value → Value → Value → Value → Value → M) (t0_2 t1_2 t2_2 t3_2 t10_1 t11_1 : Value) : M :=
  ad .i64 t11_1 (.int .i64 1) fun t22 =>
  self2 t0_2 t1_2 t2_2 t3_2 t10_1 t22
def f21_b2 (j1 : Value → M) (self2 : Value → Value → Value → Value → Value → Value → M) (t0_1 t1_1 t2_1 t3_1 t10 t11 : Value) : M :=
  lnl t0_1 fun t19 =>
  lt .i64 t11 t19 fun t20 =>
  cnd t20 (
    jn (fun (j3 : Value → Value → Value → Value → Value → Value → M) =>
      ia 1 t0_1 t11 fun t25 =>
      ld t25 fun t26 =>
      ia 3 t26 t1_1 fun t28 =>
      ldn 3 t28 fun t29 =>
      al 31 #[(.int .i64 0), (.int .i64 0), (.string ⟨#[]⟩)] fun t12 =>
      stn 3 t12 t29 <|
      dr <|
      idv t2_1 fun t30 =>
      lnl t30 fun t31 =>
      gt .i64 t31 (.int .i64 0) fun t32 =>
      idv t32 fun t33 =>
      gd t33 true (ldn 3 t12) fun t34 =>
      gd t33 true (idv t2_1) fun t35 =>
      gd t33 true (ia 3 t35 (.int .i64 0)) fun t36 =>
      gd t33 true (ldn 3 t36) fun t37 =>
      gd t33 true (cl (f41 t34 t37)) fun t38 =>
      pk t33 t38 (.bool false) fun t39 =>
      idv t39 fun t40 =>
      gd t40 false (idv t3_1) fun t41 =>
      gd t40 false (lnl t41) fun t42 =>
      gd t40 false (gt .i64 t42 (.int .i64 0)) fun t43 =>
      gd t40 false (idv t43) fun t44 =>
      gd t44 true (ldn 3 t12) fun t45 =>
      gd t44 true (idv t3_1) fun t46 =>
      gd t44 true (ia 3 t46 (.int .i64 0)) fun t47 =>
      gd t44 true (ldn 3 t47) fun t48 =>
      gd t44 true (cl (f41 t45 t48)) fun t49 =>
      gd t44 true (nt t49) fun t50 =>
      gd t40 false (pk t44 t50 (.bool false)) fun t51 =>
      pk t40 (.bool true) t51 fun t52 =>
      cnd t52 (
        j3 t0_1 t1_1 t2_1 t3_1 t10 t11
        ) (
        ia 1 t0_1 t11 fun t56 =>
        ld t56 fun t57 =>
        sm Try.prog (Instr.buildSlice 22 1 #[(0, t57)]) fun t58 =>
        sm Try.prog (Builtin.append_ #[22, 22] 22 #[t10, t58]) fun t59 =>
        j3 t0_1 t1_1 t2_1 t3_1 t59 t11
        )
      ) (f21_j3 self2)
    ) (
    j1 t10
    )
def f21_j1 (t10_2 : Value) : M :=
  rt (.tuple #[t10_2, (.int .i64 0)])
def f21 (t0 t1 t2 t3 : Value) : M :=
  cl (f28 t0 t1) fun t15 =>
  nt t15 fun t16 =>
  cnd t16 (
    rt (.tuple #[(.slice none 0 0), (.int .i64 7)])
    ) (
    jn (fun (j1 : Value → M) =>
      lo (fun _ _ _ _ _ _ => bot) (f21_b2 j1) (fun l => l t0 t1 t2 t3 (.slice none 0 0) (.int .i64 0))
      ) (f21_j1)
    )
theorem s21 (t0 t1 t2 t3 : Value) (w : World) (Q : Value → World → Prop) (h : f21 t0 t1 t2 t3 w Q) : Calls Try.prog 21 #[t0, t1, t2, t3] w (Rt Q) := by
  refine calls_of (l := [t0, t1, t2, t3]) Try.func21 rfl Try.ntmps21 (Nat.le_of_ble_eq_true rfl) ?_
  unfold f21 at h
  refine wp_seq ?_
  refine L_region ?_
  refine L_as ?_
  refine L_as ?_
  refine L_nil ?_
  refine E_n ?_
  refine wp_seq ?_
  refine wp_seq ?_
  refine L_region ?_
  refine L_mv ?_
  refine L_mv ?_
  refine L_u (N_cl Try.func28 rfl nn28 (fun w Q h => s28 _ _ w Q h) h) ?_
  intro v w h
  refine L_u (P_nt h) ?_
  intro v w h
  refine L_nil ?_
  refine E_n ?_
  refine C_cnd h (fun h => ?_) (fun h => ?_)
  · refine wp_seq ?_
    refine L_region ?_
    refine L_as ?_
    refine L_as ?_
    refine L_nil ?_
    refine E_n ?_
    refine C_ret ?_
    show bodyPost Try.prog Try.f21 (Rt Q) .ret _ _
    exact post_tmps (ts := [8, 9]) (.inr rfl) rfl h
  · refine C_skip ?_
    refine E_n ?_
    refine wp_seq ?_
    refine L_region ?_
    refine L_as ?_
    refine L_nil ?_
    refine E_n ?_
    refine wp_seq ?_
    refine wp_seq ?_
    refine L_region ?_
    refine L_as ?_
    refine L_nil ?_
    refine E_n ?_
    refine C_join (fun (k : Value → M) (ρ : Nat → Value) => k (ρ 10)) h (fun j1 J1 h => ?_) (fun ρ w h => ?_)
    · refine C_blk ?_
      refine C_lo (fun (l : Value → Value → Value → Value → Value → Value → M) (ρ : Nat → Value) => l (ρ 0) (ρ 1) (ρ 2) (ρ 3) (ρ 10) (ρ 11)) h (fun ρ w h => h) (fun nx self2 L2 ρ w h => ?_)
      unfold f21_b2 at h
      refine wp_seq ?_
      refine wp_seq ?_
      refine L_region ?_
      refine L_mv ?_
      refine L_mv ?_
      refine L_u (P_lnl is22 h) ?_
      intro v w h
      refine L_u (P_lt h) ?_
      intro v w h
      refine L_nil ?_
      refine E_n ?_
      refine C_cnd h (fun h => ?_) (fun h => ?_)
      · refine C_skip ?_
        refine E_n ?_
        refine wp_seq ?_
        refine C_join (fun (k : Value → Value → Value → Value → Value → Value → M) (ρ : Nat → Value) => k (ρ 0) (ρ 1) (ρ 2) (ρ 3) (ρ 10) (ρ 11)) h (fun j3 J3 h => ?_) (fun ρ w h => ?_)
        · refine C_blk ?_
          refine wp_seq ?_
          refine L_region ?_
          refine L_mv ?_
          refine L_mv ?_
          refine L_u (P_ia se22 h) ?_
          intro v w h
          refine L_u (P_ld sc33 h) ?_
          intro v w h
          refine L_mv ?_
          refine L_u (P_ia se33 h) ?_
          intro v w h
          refine L_u (P_ldn ag31 h) ?_
          intro v w h
          refine L_u (P_al ze31 rfl h) ?_
          intro v w h
          refine L_u (P_stn ag31 h) ?_
          intro w h
          refine L_nil ?_
          refine E_n ?_
          refine wp_seq ?_
          refine wp_seq ?_
          refine D_region (by decide +kernel) 23 rfl ?_
          replace h := dr_e h
          refine G_p 0 rfl (by decide +kernel) (Y_mv h) ?_
          intro v h
          refine G_p 1 rfl (by decide +kernel) (Y_lnl is32 h) ?_
          intro v h
          refine G_p 2 rfl (by decide +kernel) (Y_gt h) ?_
          intro v h
          refine G_p 3 rfl (by decide +kernel) (Y_mv h) ?_
          intro v h
          refine G_rg (t := 33) _ 4 rfl (by decide +kernel) h rfl rfl (fun h => R_ldn ag31 h) ?_
          intro v h
          refine G_pg (t := 33) 5 rfl (by decide +kernel) h rfl rfl (fun h => Y_mv h) ?_
          intro v h
          refine G_pg (t := 33) 6 rfl (by decide +kernel) h rfl rfl (fun h => Y_ia se32 h) ?_
          intro v h
          refine G_rg (t := 33) _ 7 rfl (by decide +kernel) h rfl rfl (fun h => R_ldn ag31 h) ?_
          intro v h
          refine G_eg (t := 33) 8 rfl (by decide +kernel) h rfl rfl (fun c h => N_cl Try.func41 rfl nn41 (fun w Q h => s41 _ _ w Q h) h c) ?_
          intro v w h
          refine ⟨keepF_dep [7] (by decide +kernel) rfl (keepF_dep [4] (by decide +kernel) rfl keepF_nil), ?_⟩
          refine G_p 9 rfl (by decide +kernel) (Y_pk h) ?_
          intro v h
          refine G_p 10 rfl (by decide +kernel) (Y_mv h) ?_
          intro v h
          refine G_pg (t := 40) 11 rfl (by decide +kernel) h rfl rfl (fun h => Y_mv h) ?_
          intro v h
          refine G_pg (t := 40) 12 rfl (by decide +kernel) h rfl rfl (fun h => Y_lnl is32 h) ?_
          intro v h
          refine G_pg (t := 40) 13 rfl (by decide +kernel) h rfl rfl (fun h => Y_gt h) ?_
          intro v h
          refine G_pg (t := 40) 14 rfl (by decide +kernel) h rfl rfl (fun h => Y_mv h) ?_
          intro v h
          refine G_rg (t := 44) _ 15 rfl (by decide +kernel) h rfl rfl (fun h => R_ldn ag31 h) ?_
          intro v h
          refine G_pg (t := 44) 16 rfl (by decide +kernel) h rfl rfl (fun h => Y_mv h) ?_
          intro v h
          refine G_pg (t := 44) 17 rfl (by decide +kernel) h rfl rfl (fun h => Y_ia se32 h) ?_
          intro v h
          refine G_rg (t := 44) _ 18 rfl (by decide +kernel) h rfl rfl (fun h => R_ldn ag31 h) ?_
          intro v h
          refine G_eg (t := 44) 19 rfl (by decide +kernel) h rfl rfl (fun c h => N_cl Try.func41 rfl nn41 (fun w Q h => s41 _ _ w Q h) h c) ?_
          intro v w h
          refine ⟨keepF_dep [18] (by decide +kernel) rfl (keepF_dep [15] (by decide +kernel) rfl (keepF_dep [14, 10, 8, 7] (by decide +kernel) rfl (keepF_dep [14, 10, 8, 4] (by decide +kernel) rfl keepF_nil))), ?_⟩
          refine G_pg (t := 44) 20 rfl (by decide +kernel) h rfl rfl (fun h => Y_nt h) ?_
          intro v h
          refine G_pg (t := 40) 21 rfl (by decide +kernel) h rfl rfl (fun h => Y_pk h) ?_
          intro v h
          refine G_p 22 rfl (by decide +kernel) (Y_pk h) ?_
          intro v h
          refine G_done (by decide +kernel) ?_
          refine E_n ?_
          refine C_cnd h (fun h => ?_) (fun h => ?_)
          · refine C_exit ?_
            refine E_x ?_
            refine B_x ?_
            exact J3 _ _ h
          · refine C_skip ?_
            refine E_n ?_
            refine L_region ?_
            refine L_mv ?_
            refine L_mv ?_
            refine L_mv ?_
            refine L_u (P_ia se22 h) ?_
            intro v w h
            refine L_u (P_ld sc33 h) ?_
            intro v w h
            refine L_u (N_bsl h) ?_
            intro v w h
            refine L_u (N_bi rfl h) ?_
            intro v w h
            refine L_as ?_
            refine L_nil ?_
            refine B_n ?_
            exact J3 _ _ h
        · unfold f21_j3 at h
          refine E_n ?_
          refine L_region ?_
          refine L_mv ?_
          refine L_u (P_ad h) ?_
          intro v w h
          refine L_as ?_
          refine L_nil ?_
          refine E_n ?_
          exact L2 _ _ h
      · refine C_exit ?_
        refine E_x ?_
        refine E_x ?_
        refine B_x ?_
        exact J1 _ _ h
    · unfold f21_j1 at h
      refine E_n ?_
      refine wp_seq ?_
      refine L_region ?_
      refine L_mv ?_
      refine L_as ?_
      refine L_as ?_
      refine L_nil ?_
      refine E_n ?_
      refine C_ret ?_
      show bodyPost Try.prog Try.f21 (Rt Q) .ret _ _
      exact post_tmps (ts := [8, 9]) (.inr rfl) rfl h

/- factotum/relate.Cut -/
def f22_b4 (j3 : Value → Value → Value → Value → Value → M) (self4 : Value → Value → Value → Value → Value → Value → Value → Value → Value → Value → M) (t1_2 t6_1 t7 t8 t14_1 t15_2 t16_1 t21 t22_1 t23 : Value) : M :=
  lt .i64 t23 t22_1 fun t24 =>
  cnd t24 (
    ia 1 t21 t23 fun t25 =>
    ld t25 fun t26 =>
    cl (f42 t8 t26) fun t29 =>
    cnd t29 (
      rt (.tuple #[(.slice none 0 0), (.int .i64 7)])
      ) (
      dr <|
      idv t6_1 fun t30 =>
      idv t7 fun t31 =>
      idv t6_1 fun t32 =>
      idv t7 fun t33 =>
      ia 1 t32 t33 fun t34 =>
      ld t34 fun t35 =>
      idv t8 fun t36 =>
      idv t26 fun t37 =>
      ia 3 t36 t37 fun t38 =>
      ldn 3 t38 fun t39 =>
      sm Try.prog (Instr.buildSlice 33 1 #[(0, t39)]) fun t40 =>
      kp (Kld t34 t35) <|
      sm Try.prog (Builtin.append_ #[33, 33] 33 #[t35, t40]) fun t41 =>
      ia 1 t30 t31 fun t42 =>
      st t42 t41 <|
      ad .i64 t23 (.int .i64 1) fun t43 =>
      self4 t1_2 t6_1 t7 t8 t14_1 t15_2 t16_1 t21 t22_1 t43
      )
    ) (
    j3 t1_2 t6_1 t14_1 t15_2 t16_1
    )
def f22_j3 (self2 : Value → Value → Value → Value → Value → M) (t1_3 t6_2 t14_2 t15_3 t16_2 : Value) : M :=
  ad .i64 t16_2 (.int .i64 1) fun t44 =>
  self2 t1_3 t6_2 t14_2 t15_3 t44
def f22_b2 (j1 : Value → M) (self2 : Value → Value → Value → Value → Value → M) (t1_1 t6 t14 t15_1 t16 : Value) : M :=
  lt .i64 t16 t15_1 fun t17 =>
  cnd t17 (
    ia 1 t14 t16 fun t19 =>
    ld t19 fun t20 =>
    lnl t1_1 fun t22 =>
    jn (fun (j3 : Value → Value → Value → Value → Value → M) =>
      lo (fun _ _ _ _ _ _ _ _ _ _ => bot) (f22_b4 j3) (fun l => l t1_1 t6 t16 t20 t14 t15_1 t16 t1_1 t22 (.int .i64 0))
      ) (f22_j3 self2)
    ) (
    j1 t6
    )
def f22_j1 (t6_3 : Value) : M :=
  rt (.tuple #[t6_3, (.int .i64 0)])
def f22 (t0 t1 : Value) : M :=
  lnl t0 fun t12 =>
  sm Try.prog (Instr.makeSlice 22 t12 t12) fun t13 =>
  lnl t0 fun t15 =>
  jn (fun (j1 : Value → M) =>
    lo (fun _ _ _ _ _ => bot) (f22_b2 j1) (fun l => l t1 t13 t0 t15 (.int .i64 0))
    ) (f22_j1)
theorem s22 (t0 t1 : Value) (w : World) (Q : Value → World → Prop) (h : f22 t0 t1 w Q) : Calls Try.prog 22 #[t0, t1] w (Rt Q) := by
  refine calls_of (l := [t0, t1]) Try.func22 rfl Try.ntmps22 (Nat.le_of_ble_eq_true rfl) ?_
  unfold f22 at h
  refine wp_seq ?_
  refine L_region ?_
  refine L_as ?_
  refine L_as ?_
  refine L_nil ?_
  refine E_n ?_
  refine wp_seq ?_
  refine L_region ?_
  refine L_mv ?_
  refine L_u (P_lnl is22 h) ?_
  intro v w h
  refine L_u (P_sm rfl h) ?_
  intro v w h
  refine L_as ?_
  refine L_nil ?_
  refine E_n ?_
  refine wp_seq ?_
  refine wp_seq ?_
  refine L_region ?_
  refine L_mv ?_
  refine L_u (P_lnl is22 h) ?_
  intro v w h
  refine L_mv ?_
  refine L_nil ?_
  refine E_n ?_
  refine C_join (fun (k : Value → M) (ρ : Nat → Value) => k (ρ 6)) h (fun j1 J1 h => ?_) (fun ρ w h => ?_)
  · refine C_blk ?_
    refine C_lo (fun (l : Value → Value → Value → Value → Value → M) (ρ : Nat → Value) => l (ρ 1) (ρ 6) (ρ 14) (ρ 15) (ρ 16)) h (fun ρ w h => h) (fun nx self2 L2 ρ w h => ?_)
    unfold f22_b2 at h
    refine wp_seq ?_
    refine L_region ?_
    refine L_u (P_lt h) ?_
    intro v w h
    refine L_nil ?_
    refine E_n ?_
    refine wp_seq ?_
    refine C_cnd h (fun h => ?_) (fun h => ?_)
    · refine C_skip ?_
      refine E_n ?_
      refine wp_seq ?_
      refine C_blk ?_
      refine wp_seq ?_
      refine L_region ?_
      refine L_mv ?_
      refine L_u (P_ia se22 h) ?_
      intro v w h
      refine L_u (P_ld sc33 h) ?_
      intro v w h
      refine L_as ?_
      refine L_as ?_
      refine L_nil ?_
      refine E_n ?_
      refine wp_seq ?_
      refine L_region ?_
      refine L_mv ?_
      refine L_u (P_lnl is43 h) ?_
      intro v w h
      refine L_mv ?_
      refine L_nil ?_
      refine E_n ?_
      refine C_join (fun (k : Value → Value → Value → Value → Value → M) (ρ : Nat → Value) => k (ρ 1) (ρ 6) (ρ 14) (ρ 15) (ρ 16)) h (fun j3 J3 h => ?_) (fun ρ w h => ?_)
      · refine C_blk ?_
        refine C_lo (fun (l : Value → Value → Value → Value → Value → Value → Value → Value → Value → Value → M) (ρ : Nat → Value) => l (ρ 1) (ρ 6) (ρ 7) (ρ 8) (ρ 14) (ρ 15) (ρ 16) (ρ 21) (ρ 22) (ρ 23)) h (fun ρ w h => h) (fun nx self4 L4 ρ w h => ?_)
        unfold f22_b4 at h
        refine wp_seq ?_
        refine L_region ?_
        refine L_u (P_lt h) ?_
        intro v w h
        refine L_nil ?_
        refine E_n ?_
        refine wp_seq ?_
        refine C_cnd h (fun h => ?_) (fun h => ?_)
        · refine C_skip ?_
          refine E_n ?_
          refine wp_seq ?_
          refine C_blk ?_
          refine wp_seq ?_
          refine L_region ?_
          refine L_u (P_ia se43 h) ?_
          intro v w h
          refine L_u (P_ld sc3 h) ?_
          intro v w h
          refine L_as ?_
          refine L_nil ?_
          refine E_n ?_
          refine wp_seq ?_
          refine wp_seq ?_
          refine L_region ?_
          refine L_mv ?_
          refine L_mv ?_
          refine L_u (N_cl Try.func42 rfl nn42 (fun w Q h => s42 _ _ w Q h) h) ?_
          intro v w h
          refine L_nil ?_
          refine E_n ?_
          refine C_cnd h (fun h => ?_) (fun h => ?_)
          · refine wp_seq ?_
            refine L_region ?_
            refine L_as ?_
            refine L_as ?_
            refine L_nil ?_
            refine E_n ?_
            refine C_ret ?_
            show bodyPost Try.prog Try.f22 (Rt Q) .ret _ _
            exact post_tmps (ts := [4, 5]) (.inr rfl) rfl h
          · refine C_skip ?_
            refine E_n ?_
            refine D_region (by decide +kernel) 14 rfl ?_
            replace h := dr_e h
            refine G_p 0 rfl (by decide +kernel) (Y_mv h) ?_
            intro v h
            refine G_p 1 rfl (by decide +kernel) (Y_mv h) ?_
            intro v h
            refine G_p 2 rfl (by decide +kernel) (Y_mv h) ?_
            intro v h
            refine G_p 3 rfl (by decide +kernel) (Y_mv h) ?_
            intro v h
            refine G_p 4 rfl (by decide +kernel) (Y_ia se22 h) ?_
            intro v h
            refine G_r _ 5 rfl (by decide +kernel) (R_ld sc33 h) ?_
            intro v h
            refine G_p 6 rfl (by decide +kernel) (Y_mv h) ?_
            intro v h
            refine G_p 7 rfl (by decide +kernel) (Y_mv h) ?_
            intro v h
            refine G_p 8 rfl (by decide +kernel) (Y_ia se33 h) ?_
            intro v h
            refine G_r _ 9 rfl (by decide +kernel) (R_ldn ag31 h) ?_
            intro v h
            refine G_e 10 rfl (by decide +kernel) (N_bsl h ?_)
            intro v w h
            refine ⟨keepF_dep [9] (by decide +kernel) rfl (keepF_cons (kp_1 h) keepF_nil), ?_⟩
            replace h := (kp_2 h)
            refine G_e 11 rfl (by decide +kernel) (N_bi rfl h ?_)
            intro v w h
            refine ⟨keepF_dep [10, 9] (by decide +kernel) rfl (keepF_dep [5] (by decide +kernel) rfl keepF_nil), ?_⟩
            refine G_p 12 rfl (by decide +kernel) (Y_ia se22 h) ?_
            intro v h
            refine G_e 13 rfl (by decide +kernel) (P_st on33 h ?_)
            intro w h
            refine ⟨keepF_dep [9] (by decide +kernel) rfl (keepF_dep [5] (by decide +kernel) rfl keepF_nil), ?_⟩
            refine G_done (by decide +kernel) ?_
            refine B_n ?_
            refine E_n ?_
            refine L_region ?_
            refine L_u (P_ad h) ?_
            intro v w h
            refine L_mv ?_
            refine L_nil ?_
            refine E_n ?_
            exact L4 _ _ h
        · refine C_exit ?_
          refine E_x ?_
          refine E_x ?_
          refine B_x ?_
          exact J3 _ _ h
      · unfold f22_j3 at h
        refine B_n ?_
        refine E_n ?_
        refine L_region ?_
        refine L_u (P_ad h) ?_
        intro v w h
        refine L_mv ?_
        refine L_nil ?_
        refine E_n ?_
        exact L2 _ _ h
    · refine C_exit ?_
      refine E_x ?_
      refine E_x ?_
      refine B_x ?_
      exact J1 _ _ h
  · unfold f22_j1 at h
    refine E_n ?_
    refine wp_seq ?_
    refine L_region ?_
    refine L_mv ?_
    refine L_as ?_
    refine L_as ?_
    refine L_nil ?_
    refine E_n ?_
    refine C_ret ?_
    show bodyPost Try.prog Try.f22 (Rt Q) .ret _ _
    exact post_tmps (ts := [4, 5]) (.inr rfl) rfl h

/- factotum/factotumref31.Cut -/
def f23_b4 (j3 : Value → Value → Value → Value → Value → M) (self4 : Value → Value → Value → Value → Value → Value → M) (t0_2 t1_2 t6_1 t7_1 t8 t9 : Value) : M :=
  lnl t1_2 fun t18 =>
  lt .i64 t9 t18 fun t19 =>
  cnd t19 (
    dr <|
    idv t1_2 fun t22 =>
    idv t9 fun t23 =>
    ia 1 t22 t23 fun t24 =>
    ld t24 fun t25 =>
    lt .i64 t25 (.int .i64 0) fun t26 =>
    idv t26 fun t27 =>
    gd t27 false (idv t1_2) fun t28 =>
    gd t27 false (idv t9) fun t29 =>
    gd t27 false (ia 1 t28 t29) fun t30 =>
    gd t27 false (ld t30) fun t31 =>
    gd t27 false (idv t0_2) fun t32 =>
    gd t27 false (idv t7_1) fun t33 =>
    gd t27 false (ia 1 t32 t33) fun t34 =>
    gd t27 false (ld t34) fun t35 =>
    gd t27 false (lnl t35) fun t36 =>
    gd t27 false (ge .i64 t31 t36) fun t37 =>
    pk t27 (.bool true) t37 fun t38 =>
    cnd t38 (
      rt (.tuple #[(.slice none 0 0), (.int .i64 7)])
      ) (
      dr <|
      idv t8 fun t39 =>
      idv t0_2 fun t40 =>
      idv t7_1 fun t41 =>
      ia 1 t40 t41 fun t42 =>
      ld t42 fun t43 =>
      idv t1_2 fun t44 =>
      idv t9 fun t45 =>
      ia 1 t44 t45 fun t46 =>
      ld t46 fun t47 =>
      ia 3 t43 t47 fun t48 =>
      ldn 3 t48 fun t49 =>
      sm Try.prog (Instr.buildSlice 33 1 #[(0, t49)]) fun t50 =>
      sm Try.prog (Builtin.append_ #[33, 33] 33 #[t39, t50]) fun t51 =>
      idv t51 fun t8_1 =>
      ad .i64 t9 (.int .i64 1) fun t21 =>
      self4 t0_2 t1_2 t6_1 t7_1 t8_1 t21
      )
    ) (
    j3 t0_2 t1_2 t6_1 t7_1 t8
    )
def f23_j3 (self2 : Value → Value → Value → Value → M) (t0_3 t1_3 t6_2 t7_2 t8_2 : Value) : M :=
  sm Try.prog (Instr.buildSlice 22 1 #[(0, t8_2)]) fun t54 =>
  sm Try.prog (Builtin.append_ #[22, 22] 22 #[t6_2, t54]) fun t55 =>
  ad .i64 t7_2 (.int .i64 1) fun t15 =>
  self2 t0_3 t1_3 t55 t15
def f23_b2 (j1 : Value → M) (self2 : Value → Value → Value → Value → M) (t0_1 t1_1 t6 t7 : Value) : M :=
  lnl t0_1 fun t12 =>
  lt .i64 t7 t12 fun t13 =>
  cnd t13 (
    jn (fun (j3 : Value → Value → Value → Value → Value → M) =>
      lo (fun _ _ _ _ _ _ => bot) (f23_b4 j3) (fun l => l t0_1 t1_1 t6 t7 (.slice none 0 0) (.int .i64 0))
      ) (f23_j3 self2)
    ) (
    j1 t6
    )
def f23_j1 (t6_3 : Value) : M :=
  rt (.tuple #[t6_3, (.int .i64 0)])
def f23 (t0 t1 : Value) : M :=
  jn (fun (j1 : Value → M) =>
    lo (fun _ _ _ _ => bot) (f23_b2 j1) (fun l => l t0 t1 (.slice none 0 0) (.int .i64 0))
    ) (f23_j1)
theorem s23 (t0 t1 : Value) (w : World) (Q : Value → World → Prop) (h : f23 t0 t1 w Q) : Calls Try.prog 23 #[t0, t1] w (Rt Q) := by
  refine calls_of (l := [t0, t1]) Try.func23 rfl Try.ntmps23 (Nat.le_of_ble_eq_true rfl) ?_
  unfold f23 at h
  refine wp_seq ?_
  refine L_region ?_
  refine L_as ?_
  refine L_as ?_
  refine L_nil ?_
  refine E_n ?_
  refine wp_seq ?_
  refine L_region ?_
  refine L_as ?_
  refine L_nil ?_
  refine E_n ?_
  refine wp_seq ?_
  refine wp_seq ?_
  refine L_region ?_
  refine L_as ?_
  refine L_nil ?_
  refine E_n ?_
  refine C_join (fun (k : Value → M) (ρ : Nat → Value) => k (ρ 6)) h (fun j1 J1 h => ?_) (fun ρ w h => ?_)
  · refine C_blk ?_
    refine C_lo (fun (l : Value → Value → Value → Value → M) (ρ : Nat → Value) => l (ρ 0) (ρ 1) (ρ 6) (ρ 7)) h (fun ρ w h => h) (fun nx self2 L2 ρ w h => ?_)
    unfold f23_b2 at h
    refine wp_seq ?_
    refine wp_seq ?_
    refine L_region ?_
    refine L_mv ?_
    refine L_mv ?_
    refine L_u (P_lnl is22 h) ?_
    intro v w h
    refine L_u (P_lt h) ?_
    intro v w h
    refine L_nil ?_
    refine E_n ?_
    refine C_cnd h (fun h => ?_) (fun h => ?_)
    · refine C_skip ?_
      refine E_n ?_
      refine wp_seq ?_
      refine C_blk ?_
      refine wp_seq ?_
      refine L_region ?_
      refine L_as ?_
      refine L_nil ?_
      refine E_n ?_
      refine wp_seq ?_
      refine wp_seq ?_
      refine L_region ?_
      refine L_as ?_
      refine L_nil ?_
      refine E_n ?_
      refine C_join (fun (k : Value → Value → Value → Value → Value → M) (ρ : Nat → Value) => k (ρ 0) (ρ 1) (ρ 6) (ρ 7) (ρ 8)) h (fun j3 J3 h => ?_) (fun ρ w h => ?_)
      · refine C_blk ?_
        refine C_lo (fun (l : Value → Value → Value → Value → Value → Value → M) (ρ : Nat → Value) => l (ρ 0) (ρ 1) (ρ 6) (ρ 7) (ρ 8) (ρ 9)) h (fun ρ w h => h) (fun nx self4 L4 ρ w h => ?_)
        unfold f23_b4 at h
        refine wp_seq ?_
        refine wp_seq ?_
        refine L_region ?_
        refine L_mv ?_
        refine L_mv ?_
        refine L_u (P_lnl is43 h) ?_
        intro v w h
        refine L_u (P_lt h) ?_
        intro v w h
        refine L_nil ?_
        refine E_n ?_
        refine C_cnd h (fun h => ?_) (fun h => ?_)
        · refine C_skip ?_
          refine E_n ?_
          refine wp_seq ?_
          refine C_blk ?_
          refine wp_seq ?_
          refine wp_seq ?_
          refine D_region (by decide +kernel) 17 rfl ?_
          replace h := dr_e h
          refine G_p 0 rfl (by decide +kernel) (Y_mv h) ?_
          intro v h
          refine G_p 1 rfl (by decide +kernel) (Y_mv h) ?_
          intro v h
          refine G_p 2 rfl (by decide +kernel) (Y_ia se43 h) ?_
          intro v h
          refine G_r _ 3 rfl (by decide +kernel) (R_ld sc3 h) ?_
          intro v h
          refine G_p 4 rfl (by decide +kernel) (Y_lt h) ?_
          intro v h
          refine G_p 5 rfl (by decide +kernel) (Y_mv h) ?_
          intro v h
          refine G_pg (t := 27) 6 rfl (by decide +kernel) h rfl rfl (fun h => Y_mv h) ?_
          intro v h
          refine G_pg (t := 27) 7 rfl (by decide +kernel) h rfl rfl (fun h => Y_mv h) ?_
          intro v h
          refine G_pg (t := 27) 8 rfl (by decide +kernel) h rfl rfl (fun h => Y_ia se43 h) ?_
          intro v h
          refine G_rg (t := 27) _ 9 rfl (by decide +kernel) h rfl rfl (fun h => R_ld sc3 h) ?_
          intro v h
          refine G_pg (t := 27) 10 rfl (by decide +kernel) h rfl rfl (fun h => Y_mv h) ?_
          intro v h
          refine G_pg (t := 27) 11 rfl (by decide +kernel) h rfl rfl (fun h => Y_mv h) ?_
          intro v h
          refine G_pg (t := 27) 12 rfl (by decide +kernel) h rfl rfl (fun h => Y_ia se22 h) ?_
          intro v h
          refine G_rg (t := 27) _ 13 rfl (by decide +kernel) h rfl rfl (fun h => R_ld sc33 h) ?_
          intro v h
          refine G_pg (t := 27) 14 rfl (by decide +kernel) h rfl rfl (fun h => Y_lnl is33 h) ?_
          intro v h
          refine G_pg (t := 27) 15 rfl (by decide +kernel) h rfl rfl (fun h => Y_ge h) ?_
          intro v h
          refine G_p 16 rfl (by decide +kernel) (Y_pk h) ?_
          intro v h
          refine G_done (by decide +kernel) ?_
          refine E_n ?_
          refine C_cnd h (fun h => ?_) (fun h => ?_)
          · refine wp_seq ?_
            refine L_region ?_
            refine L_as ?_
            refine L_as ?_
            refine L_nil ?_
            refine E_n ?_
            refine C_ret ?_
            show bodyPost Try.prog Try.f23 (Rt Q) .ret _ _
            exact post_tmps (ts := [4, 5]) (.inr rfl) rfl h
          · refine C_skip ?_
            refine E_n ?_
            refine D_region (by decide +kernel) 14 rfl ?_
            replace h := dr_e h
            refine G_p 0 rfl (by decide +kernel) (Y_mv h) ?_
            intro v h
            refine G_p 1 rfl (by decide +kernel) (Y_mv h) ?_
            intro v h
            refine G_p 2 rfl (by decide +kernel) (Y_mv h) ?_
            intro v h
            refine G_p 3 rfl (by decide +kernel) (Y_ia se22 h) ?_
            intro v h
            refine G_r _ 4 rfl (by decide +kernel) (R_ld sc33 h) ?_
            intro v h
            refine G_p 5 rfl (by decide +kernel) (Y_mv h) ?_
            intro v h
            refine G_p 6 rfl (by decide +kernel) (Y_mv h) ?_
            intro v h
            refine G_p 7 rfl (by decide +kernel) (Y_ia se43 h) ?_
            intro v h
            refine G_r _ 8 rfl (by decide +kernel) (R_ld sc3 h) ?_
            intro v h
            refine G_p 9 rfl (by decide +kernel) (Y_ia se33 h) ?_
            intro v h
            refine G_r _ 10 rfl (by decide +kernel) (R_ldn ag31 h) ?_
            intro v h
            refine G_e 11 rfl (by decide +kernel) (N_bsl h ?_)
            intro v w h
            refine ⟨keepF_dep [10] (by decide +kernel) rfl (keepF_dep [10, 9, 8] (by decide +kernel) rfl (keepF_dep [10, 9, 4] (by decide +kernel) rfl keepF_nil)), ?_⟩
            refine G_e 12 rfl (by decide +kernel) (N_bi rfl h ?_)
            intro v w h
            refine ⟨keepF_dep [11, 10] (by decide +kernel) rfl (keepF_dep [11, 10, 9, 8] (by decide +kernel) rfl (keepF_dep [11, 10, 9, 4] (by decide +kernel) rfl keepF_nil)), ?_⟩
            refine G_p 13 rfl (by decide +kernel) (Y_as h) ?_
            intro v h
            refine G_done (by decide +kernel) ?_
            refine B_n ?_
            refine E_n ?_
            refine L_region ?_
            refine L_mv ?_
            refine L_u (P_ad h) ?_
            intro v w h
            refine L_as ?_
            refine L_nil ?_
            refine E_n ?_
            exact L4 _ _ h
        · refine C_exit ?_
          refine E_x ?_
          refine E_x ?_
          refine B_x ?_
          exact J3 _ _ h
      · unfold f23_j3 at h
        refine E_n ?_
        refine L_region ?_
        refine L_mv ?_
        refine L_mv ?_
        refine L_u (N_bsl h) ?_
        intro v w h
        refine L_u (N_bi rfl h) ?_
        intro v w h
        refine L_as ?_
        refine L_nil ?_
        refine B_n ?_
        refine E_n ?_
        refine L_region ?_
        refine L_mv ?_
        refine L_u (P_ad h) ?_
        intro v w h
        refine L_as ?_
        refine L_nil ?_
        refine E_n ?_
        exact L2 _ _ h
    · refine C_exit ?_
      refine E_x ?_
      refine E_x ?_
      refine B_x ?_
      exact J1 _ _ h
  · unfold f23_j1 at h
    refine E_n ?_
    refine wp_seq ?_
    refine L_region ?_
    refine L_mv ?_
    refine L_as ?_
    refine L_as ?_
    refine L_nil ?_
    refine E_n ?_
    refine C_ret ?_
    show bodyPost Try.prog Try.f23 (Rt Q) .ret _ _
    exact post_tmps (ts := [4, 5]) (.inr rfl) rfl h

/- factotum/factotumref31.Sort -/
def f24_b4 (j3 : Value → Value → Value → Value → Value → M) (self4 : Value → Value → Value → Value → Value → M) (t0_2 t1_2 t6_1 t7_1 t8 : Value) : M :=
  dr <|
  idv t8 fun t21 =>
  gt .i64 t21 (.int .i64 0) fun t22 =>
  idv t22 fun t23 =>
  gd t23 true (idv t0_2) fun t24 =>
  gd t23 true (idv t7_1) fun t25 =>
  gd t23 true (ia 1 t24 t25) fun t26 =>
  gd t23 true (ld t26) fun t27 =>
  gd t23 true (idv t1_2) fun t28 =>
  gd t23 true (ia 3 t27 t28) fun t29 =>
  gd t23 true (ldn 3 t29) fun t30 =>
  gd t23 true (idv t6_1) fun t31 =>
  gd t23 true (idv t8) fun t32 =>
  gd t23 true (su .i64 t32 (.int .i64 1)) fun t33 =>
  gd t23 true (ia 1 t31 t33) fun t34 =>
  gd t23 true (ld t34) fun t35 =>
  gd t23 true (idv t1_2) fun t36 =>
  gd t23 true (ia 3 t35 t36) fun t37 =>
  gd t23 true (ldn 3 t37) fun t38 =>
  gd t23 true (cl (f41 t30 t38)) fun t39 =>
  pk t23 t39 (.bool false) fun t40 =>
  cnd t40 (
    su .i64 t8 (.int .i64 1) fun t42 =>
    self4 t0_2 t1_2 t6_1 t7_1 t42
    ) (
    j3 t0_2 t1_2 t6_1 t7_1 t8
    )
def f24_j5 (self2 : Value → Value → Value → Value → M) (t0_4 t1_4 t6_5 t7_3 : Value) : M :=
  ad .i64 t7_3 (.int .i64 1) fun t18 =>
  self2 t0_4 t1_4 t6_5 t18
def f24_j3 (self2 : Value → Value → Value → Value → M) (t0_3 t1_3 t6_2 t7_2 t8_1 : Value) : M :=
  jn (fun (j5 : Value → Value → Value → Value → M) =>
    dr <|
    idv t6_2 fun t43 =>
    idv t8_1 fun t44 =>
    sll 1 t43 none (some t44) fun t45 =>
    idv t0_3 fun t47 =>
    idv t7_2 fun t48 =>
    ia 1 t47 t48 fun t49 =>
    ld t49 fun t50 =>
    idv t6_2 fun t53 =>
    idv t8_1 fun t54 =>
    sll 1 t53 (some t54) none fun t55 =>
    amb (
      sm Try.prog (Builtin.append_ #[22, 22] 22 #[(.slice none 0 0), t45]) fun t46 =>
      kp (Kld t49 t50) <|
      sm Try.prog (Instr.buildSlice 22 1 #[(0, t50)]) fun t51_1 =>
      sm Try.prog (Builtin.append_ #[22, 22] 22 #[t46, t51_1]) fun t52 =>
      sm Try.prog (Builtin.append_ #[22, 22] 22 #[t52, t55]) fun t56 =>
      idv t56 fun t6_3 =>
      j5 t0_3 t1_3 t6_3 t7_2
      ) (
      sm Try.prog (Instr.buildSlice 22 1 #[(0, t50)]) fun t51 =>
      sm Try.prog (Builtin.append_ #[22, 22] 22 #[(.slice none 0 0), t45]) fun t46_1 =>
      kp (Kld t49 t50) <|
      sm Try.prog (Builtin.append_ #[22, 22] 22 #[t46_1, t51]) fun t52_1 =>
      sm Try.prog (Builtin.append_ #[22, 22] 22 #[t52_1, t55]) fun t56_1 =>
      idv t56_1 fun t6_4 =>
      j5 t0_3 t1_3 t6_4 t7_2
      )
    ) (f24_j5 self2)
def f24_b2 (j1 : Value → M) (self2 : Value → Value → Value → Value → M) (t0_1 t1_1 t6 t7 : Value) : M :=
  lnl t0_1 fun t15 =>
  lt .i64 t7 t15 fun t16 =>
  cnd t16 (
    lnl t6 fun t20 =>
    jn (fun (j3 : Value → Value → Value → Value → Value → M) =>
      lo (fun _ _ _ _ _ => bot) (f24_b4 j3) (fun l => l t0_1 t1_1 t6 t7 t20)
      ) (f24_j3 self2)
    ) (
    j1 t6
    )
def f24_j1 (t6_6 : Value) : M :=
  rt (.tuple #[t6_6, (.int .i64 0)])
def f24 (t0 t1 : Value) : M :=
  cl (f28 t0 t1) fun t11 =>
  nt t11 fun t12 =>
  cnd t12 (
    rt (.tuple #[(.slice none 0 0), (.int .i64 7)])
    ) (
    jn (fun (j1 : Value → M) =>
      lo (fun _ _ _ _ => bot) (f24_b2 j1) (fun l => l t0 t1 (.slice none 0 0) (.int .i64 0))
      ) (f24_j1)
    )
theorem s24 (t0 t1 : Value) (w : World) (Q : Value → World → Prop) (h : f24 t0 t1 w Q) : Calls Try.prog 24 #[t0, t1] w (Rt Q) := by
  refine calls_of (l := [t0, t1]) Try.func24 rfl Try.ntmps24 (Nat.le_of_ble_eq_true rfl) ?_
  unfold f24 at h
  refine wp_seq ?_
  refine L_region ?_
  refine L_as ?_
  refine L_as ?_
  refine L_nil ?_
  refine E_n ?_
  refine wp_seq ?_
  refine wp_seq ?_
  refine L_region ?_
  refine L_mv ?_
  refine L_mv ?_
  refine L_u (N_cl Try.func28 rfl nn28 (fun w Q h => s28 _ _ w Q h) h) ?_
  intro v w h
  refine L_u (P_nt h) ?_
  intro v w h
  refine L_nil ?_
  refine E_n ?_
  refine C_cnd h (fun h => ?_) (fun h => ?_)
  · refine wp_seq ?_
    refine L_region ?_
    refine L_as ?_
    refine L_as ?_
    refine L_nil ?_
    refine E_n ?_
    refine C_ret ?_
    show bodyPost Try.prog Try.f24 (Rt Q) .ret _ _
    exact post_tmps (ts := [4, 5]) (.inr rfl) rfl h
  · refine C_skip ?_
    refine E_n ?_
    refine wp_seq ?_
    refine L_region ?_
    refine L_as ?_
    refine L_nil ?_
    refine E_n ?_
    refine wp_seq ?_
    refine wp_seq ?_
    refine L_region ?_
    refine L_as ?_
    refine L_nil ?_
    refine E_n ?_
    refine C_join (fun (k : Value → M) (ρ : Nat → Value) => k (ρ 6)) h (fun j1 J1 h => ?_) (fun ρ w h => ?_)
    · refine C_blk ?_
      refine C_lo (fun (l : Value → Value → Value → Value → M) (ρ : Nat → Value) => l (ρ 0) (ρ 1) (ρ 6) (ρ 7)) h (fun ρ w h => h) (fun nx self2 L2 ρ w h => ?_)
      unfold f24_b2 at h
      refine wp_seq ?_
      refine wp_seq ?_
      refine L_region ?_
      refine L_mv ?_
      refine L_mv ?_
      refine L_u (P_lnl is22 h) ?_
      intro v w h
      refine L_u (P_lt h) ?_
      intro v w h
      refine L_nil ?_
      refine E_n ?_
      refine C_cnd h (fun h => ?_) (fun h => ?_)
      · refine C_skip ?_
        refine E_n ?_
        refine wp_seq ?_
        refine C_blk ?_
        refine wp_seq ?_
        refine L_region ?_
        refine L_mv ?_
        refine L_u (P_lnl is22 h) ?_
        intro v w h
        refine L_as ?_
        refine L_nil ?_
        refine E_n ?_
        refine wp_seq ?_
        refine C_join (fun (k : Value → Value → Value → Value → Value → M) (ρ : Nat → Value) => k (ρ 0) (ρ 1) (ρ 6) (ρ 7) (ρ 8)) h (fun j3 J3 h => ?_) (fun ρ w h => ?_)
        · refine C_blk ?_
          refine C_lo (fun (l : Value → Value → Value → Value → Value → M) (ρ : Nat → Value) => l (ρ 0) (ρ 1) (ρ 6) (ρ 7) (ρ 8)) h (fun ρ w h => h) (fun nx self4 L4 ρ w h => ?_)
          unfold f24_b4 at h
          refine wp_seq ?_
          refine wp_seq ?_
          refine D_region (by decide +kernel) 20 rfl ?_
          replace h := dr_e h
          refine G_p 0 rfl (by decide +kernel) (Y_mv h) ?_
          intro v h
          refine G_p 1 rfl (by decide +kernel) (Y_gt h) ?_
          intro v h
          refine G_p 2 rfl (by decide +kernel) (Y_mv h) ?_
          intro v h
          refine G_pg (t := 23) 3 rfl (by decide +kernel) h rfl rfl (fun h => Y_mv h) ?_
          intro v h
          refine G_pg (t := 23) 4 rfl (by decide +kernel) h rfl rfl (fun h => Y_mv h) ?_
          intro v h
          refine G_pg (t := 23) 5 rfl (by decide +kernel) h rfl rfl (fun h => Y_ia se22 h) ?_
          intro v h
          refine G_rg (t := 23) _ 6 rfl (by decide +kernel) h rfl rfl (fun h => R_ld sc33 h) ?_
          intro v h
          refine G_pg (t := 23) 7 rfl (by decide +kernel) h rfl rfl (fun h => Y_mv h) ?_
          intro v h
          refine G_pg (t := 23) 8 rfl (by decide +kernel) h rfl rfl (fun h => Y_ia se33 h) ?_
          intro v h
          refine G_rg (t := 23) _ 9 rfl (by decide +kernel) h rfl rfl (fun h => R_ldn ag31 h) ?_
          intro v h
          refine G_pg (t := 23) 10 rfl (by decide +kernel) h rfl rfl (fun h => Y_mv h) ?_
          intro v h
          refine G_pg (t := 23) 11 rfl (by decide +kernel) h rfl rfl (fun h => Y_mv h) ?_
          intro v h
          refine G_pg (t := 23) 12 rfl (by decide +kernel) h rfl rfl (fun h => Y_su h) ?_
          intro v h
          refine G_pg (t := 23) 13 rfl (by decide +kernel) h rfl rfl (fun h => Y_ia se22 h) ?_
          intro v h
          refine G_rg (t := 23) _ 14 rfl (by decide +kernel) h rfl rfl (fun h => R_ld sc33 h) ?_
          intro v h
          refine G_pg (t := 23) 15 rfl (by decide +kernel) h rfl rfl (fun h => Y_mv h) ?_
          intro v h
          refine G_pg (t := 23) 16 rfl (by decide +kernel) h rfl rfl (fun h => Y_ia se33 h) ?_
          intro v h
          refine G_rg (t := 23) _ 17 rfl (by decide +kernel) h rfl rfl (fun h => R_ldn ag31 h) ?_
          intro v h
          refine G_eg (t := 23) 18 rfl (by decide +kernel) h rfl rfl (fun c h => N_cl Try.func41 rfl nn41 (fun w Q h => s41 _ _ w Q h) h c) ?_
          intro v w h
          refine ⟨keepF_dep [17] (by decide +kernel) rfl (keepF_dep [17, 16, 14] (by decide +kernel) rfl (keepF_dep [9] (by decide +kernel) rfl (keepF_dep [9, 8, 6] (by decide +kernel) rfl keepF_nil))), ?_⟩
          refine G_p 19 rfl (by decide +kernel) (Y_pk h) ?_
          intro v h
          refine G_done (by decide +kernel) ?_
          refine E_n ?_
          refine C_cnd h (fun h => ?_) (fun h => ?_)
          · refine C_skip ?_
            refine E_n ?_
            refine C_blk ?_
            refine L_region ?_
            refine L_mv ?_
            refine L_u (P_su h) ?_
            intro v w h
            refine L_as ?_
            refine L_nil ?_
            refine B_n ?_
            refine E_n ?_
            exact L4 _ _ h
          · refine C_exit ?_
            refine E_x ?_
            refine E_x ?_
            refine B_x ?_
            exact J3 _ _ h
        · unfold f24_j3 at h
          refine E_n ?_
          refine C_join (fun (k : Value → Value → Value → Value → M) (ρ : Nat → Value) => k (ρ 0) (ρ 1) (ρ 6) (ρ 7)) h (fun j5 J5 h => ?_) (fun ρ w h => ?_)
          · refine D_region (by decide +kernel) 15 rfl ?_
            replace h := dr_e h
            refine G_p 0 rfl (by decide +kernel) (Y_mv h) ?_
            intro v h
            refine G_p 1 rfl (by decide +kernel) (Y_mv h) ?_
            intro v h
            refine G_p 2 rfl (by decide +kernel) (Y_sll se22 h) ?_
            intro v h
            refine G_p 4 rfl (by decide +kernel) (Y_mv h) ?_
            intro v h
            refine G_p 5 rfl (by decide +kernel) (Y_mv h) ?_
            intro v h
            refine G_p 6 rfl (by decide +kernel) (Y_ia se22 h) ?_
            intro v h
            refine G_r _ 7 rfl (by decide +kernel) (R_ld sc33 h) ?_
            intro v h
            refine G_p 10 rfl (by decide +kernel) (Y_mv h) ?_
            intro v h
            refine G_p 11 rfl (by decide +kernel) (Y_mv h) ?_
            intro v h
            refine G_p 12 rfl (by decide +kernel) (Y_sll se22 h) ?_
            intro v h
            refine G_two (i := 3) (j := 8) (by decide +kernel) (G_op rfl (N_bi rfl (amb_1 h) ?_)) (G_op rfl (N_bsl (amb_2 h) ?_))
            · intro v w h
              refine ⟨keepF_cons (kp_1 h) keepF_nil, ?_⟩
              replace h := (kp_2 h)
              refine G_e 8 rfl (by decide +kernel) (N_bsl h ?_)
              intro v w h
              refine ⟨keepF_dep [7] (by decide +kernel) rfl keepF_nil, ?_⟩
              refine G_e 9 rfl (by decide +kernel) (N_bi rfl h ?_)
              intro v w h
              refine ⟨keepF_dep [8, 7] (by decide +kernel) rfl keepF_nil, ?_⟩
              refine G_e 13 rfl (by decide +kernel) (N_bi rfl h ?_)
              intro v w h
              refine ⟨keepF_dep [9, 8, 7] (by decide +kernel) rfl keepF_nil, ?_⟩
              refine G_p 14 rfl (by decide +kernel) (Y_as h) ?_
              intro v h
              refine G_done (by decide +kernel) ?_
              exact J5 _ _ h
            · intro v w h
              refine ⟨keepF_dep [7] (by decide +kernel) rfl keepF_nil, ?_⟩
              refine G_e 3 rfl (by decide +kernel) (N_bi rfl h ?_)
              intro v w h
              refine ⟨keepF_cons (kp_1 h) keepF_nil, ?_⟩
              replace h := (kp_2 h)
              refine G_e 9 rfl (by decide +kernel) (N_bi rfl h ?_)
              intro v w h
              refine ⟨keepF_dep [8, 7] (by decide +kernel) rfl keepF_nil, ?_⟩
              refine G_e 13 rfl (by decide +kernel) (N_bi rfl h ?_)
              intro v w h
              refine ⟨keepF_dep [9, 8, 7] (by decide +kernel) rfl keepF_nil, ?_⟩
              refine G_p 14 rfl (by decide +kernel) (Y_as h) ?_
              intro v h
              refine G_done (by decide +kernel) ?_
              exact J5 _ _ h
          · unfold f24_j5 at h
            refine B_n ?_
            refine E_n ?_
            refine L_region ?_
            refine L_mv ?_
            refine L_u (P_ad h) ?_
            intro v w h
            refine L_as ?_
            refine L_nil ?_
            refine E_n ?_
            exact L2 _ _ h
      · refine C_exit ?_
        refine E_x ?_
        refine E_x ?_
        refine B_x ?_
        exact J1 _ _ h
    · unfold f24_j1 at h
      refine E_n ?_
      refine wp_seq ?_
      refine L_region ?_
      refine L_mv ?_
      refine L_as ?_
      refine L_as ?_
      refine L_nil ?_
      refine E_n ?_
      refine C_ret ?_
      show bodyPost Try.prog Try.f24 (Rt Q) .ret _ _
      exact post_tmps (ts := [4, 5]) (.inr rfl) rfl h

/- factotum/factotumlaw31.RelateOne -/
def f7_j1 (t0_1 t1_1 t5_1 t7 : Value) : M :=
  iaa 2 1 t5_1 (.int .i64 0) fun t33 =>
  ld t33 fun t34 =>
  iaa 2 1 t5_1 (.int .i64 1) fun t35 =>
  ld t35 fun t36 =>
  cl (f18 t0_1 t7 t34 t36) fun t37 =>
  ex 0 t37 fun t38 =>
  ex 1 t37 fun t39 =>
  iaa 2 1 t5_1 (.int .i64 0) fun t43 =>
  ld t43 fun t44 =>
  iaa 2 1 t5_1 (.int .i64 1) fun t45 =>
  ld t45 fun t46 =>
  cl (f21 t0_1 t7 t44 t46) fun t47 =>
  ex 0 t47 fun t48 =>
  ex 1 t47 fun t49 =>
  cl (f22 t0_1 t1_1) fun t53 =>
  ex 0 t53 fun t54 =>
  ex 1 t53 fun t55 =>
  cl (f23 t0_1 t1_1) fun t59 =>
  ex 0 t59 fun t60 =>
  ex 1 t59 fun t61 =>
  cl (f20 t0_1 t7) fun t65 =>
  ex 0 t65 fun t66 =>
  ex 1 t65 fun t67 =>
  cl (f24 t0_1 t7) fun t71 =>
  ex 0 t71 fun t72 =>
  ex 1 t71 fun t73 =>
  eqi .i64 t39 t49 fun t76 =>
  gd t76 true (idv t38) fun t78 =>
  gd t76 true (idv t48) fun t79 =>
  gd t76 true (cl (f13 t78 t79)) fun t80 =>
  pk t76 t80 (.bool false) fun t81 =>
  gd t81 true (idv t55) fun t83 =>
  gd t81 true (idv t61) fun t84 =>
  gd t81 true (eqi .i64 t83 t84) fun t85 =>
  pk t81 t85 (.bool false) fun t86 =>
  gd t86 true (idv t54) fun t88 =>
  gd t86 true (idv t60) fun t89 =>
  gd t86 true (cl (f13 t88 t89)) fun t90 =>
  pk t86 t90 (.bool false) fun t91 =>
  gd t91 true (idv t67) fun t93 =>
  gd t91 true (idv t73) fun t94 =>
  gd t91 true (eqi .i64 t93 t94) fun t95 =>
  pk t91 t95 (.bool false) fun t96 =>
  gd t96 true (idv t66) fun t98 =>
  gd t96 true (idv t72) fun t99 =>
  gd t96 true (cl (f13 t98 t99)) fun t100 =>
  pk t96 t100 (.bool false) fun t101 =>
  rt t101
def f7 (t0 t1 t2 : Value) : M :=
  bx 44 t2 fun t5 =>
  cl (f8) fun t20 =>
  nt t20 fun t21 =>
  cnd t21 (
    rt (.bool false)
    ) (
    cl (f9 t0) fun t23 =>
    lnl t1 fun t25 =>
    gt .i64 t25 (.int .i64 0) fun t26 =>
    jn (fun (j1 : Value → Value → Value → Value → M) =>
      cnd t26 (
        ia 1 t1 (.int .i64 0) fun t28 =>
        ld t28 fun t29 =>
        j1 t23 t1 t5 t29
        ) (
        j1 t23 t1 t5 (.int .i64 0)
        )
      ) (f7_j1)
    )
theorem s7 (t0 t1 t2 : Value) (w : World) (Q : Value → World → Prop) (h : f7 t0 t1 t2 w Q) : Calls Try.prog 7 #[t0, t1, t2] w (Rt Q) := by
  refine calls_of (l := [t0, t1, t2]) Try.func7 rfl Try.ntmps7 (Nat.le_of_ble_eq_true rfl) ?_
  unfold f7 at h
  refine wp_seq ?_
  refine L_region ?_
  refine L_u (P_bx h) ?_
  intro v w h
  refine L_as ?_
  refine L_nil ?_
  refine E_n ?_
  refine wp_seq ?_
  refine wp_seq ?_
  refine L_region ?_
  refine L_u (N_cl Try.func8 rfl nn8 (fun w Q h => s8 w Q h) h) ?_
  intro v w h
  refine L_u (P_nt h) ?_
  intro v w h
  refine L_nil ?_
  refine E_n ?_
  refine C_cnd h (fun h => ?_) (fun h => ?_)
  · refine wp_seq ?_
    refine L_region ?_
    refine L_as ?_
    refine L_nil ?_
    refine E_n ?_
    refine C_ret ?_
    show bodyPost Try.prog Try.f7 (Rt Q) .ret _ _
    exact post_tmps (ts := [6]) (.inr rfl) rfl h
  · refine C_skip ?_
    refine E_n ?_
    refine wp_seq ?_
    refine L_region ?_
    refine L_mv ?_
    refine L_u (N_cl Try.func9 rfl nn9 (fun w Q h => s9 _ w Q h) h) ?_
    intro v w h
    refine L_as ?_
    refine L_nil ?_
    refine E_n ?_
    refine wp_seq ?_
    refine L_region ?_
    refine L_as ?_
    refine L_nil ?_
    refine E_n ?_
    refine wp_seq ?_
    refine wp_seq ?_
    refine L_region ?_
    refine L_mv ?_
    refine L_u (P_lnl is43 h) ?_
    intro v w h
    refine L_u (P_gt h) ?_
    intro v w h
    refine L_nil ?_
    refine E_n ?_
    refine C_join (fun (k : Value → Value → Value → Value → M) (ρ : Nat → Value) => k (ρ 0) (ρ 1) (ρ 5) (ρ 7)) h (fun j1 J1 h => ?_) (fun ρ w h => ?_)
    · refine C_cnd h (fun h => ?_) (fun h => ?_)
      · refine L_region ?_
        refine L_mv ?_
        refine L_u (P_ia se43 h) ?_
        intro v w h
        refine L_u (P_ld sc3 h) ?_
        intro v w h
        refine L_as ?_
        refine L_nil ?_
        exact J1 _ _ h
      · refine C_skip ?_
        exact J1 _ _ h
    · unfold f7_j1 at h
      refine E_n ?_
      refine wp_seq ?_
      refine L_region ?_
      refine L_mv ?_
      refine L_mv ?_
      refine L_u (P_iaa ae44 h) ?_
      intro v w h
      refine L_u (P_ld sc32 h) ?_
      intro v w h
      refine L_u (P_iaa ae44 h) ?_
      intro v w h
      refine L_u (P_ld sc32 h) ?_
      intro v w h
      refine L_u (N_cl Try.func18 rfl nn18 (fun w Q h => s18 _ _ _ _ w Q h) h) ?_
      intro v w h
      refine L_mv ?_
      refine L_u (P_ex h) ?_
      intro v w h
      refine L_u (P_ex h) ?_
      intro v w h
      refine L_as ?_
      refine L_as ?_
      refine L_nil ?_
      refine E_n ?_
      refine wp_seq ?_
      refine L_region ?_
      refine L_mv ?_
      refine L_mv ?_
      refine L_u (P_iaa ae44 h) ?_
      intro v w h
      refine L_u (P_ld sc32 h) ?_
      intro v w h
      refine L_u (P_iaa ae44 h) ?_
      intro v w h
      refine L_u (P_ld sc32 h) ?_
      intro v w h
      refine L_u (N_cl Try.func21 rfl nn21 (fun w Q h => s21 _ _ _ _ w Q h) h) ?_
      intro v w h
      refine L_mv ?_
      refine L_u (P_ex h) ?_
      intro v w h
      refine L_u (P_ex h) ?_
      intro v w h
      refine L_as ?_
      refine L_as ?_
      refine L_nil ?_
      refine E_n ?_
      refine wp_seq ?_
      refine L_region ?_
      refine L_mv ?_
      refine L_mv ?_
      refine L_u (N_cl Try.func22 rfl nn22 (fun w Q h => s22 _ _ w Q h) h) ?_
      intro v w h
      refine L_mv ?_
      refine L_u (P_ex h) ?_
      intro v w h
      refine L_u (P_ex h) ?_
      intro v w h
      refine L_as ?_
      refine L_as ?_
      refine L_nil ?_
      refine E_n ?_
      refine wp_seq ?_
      refine L_region ?_
      refine L_mv ?_
      refine L_mv ?_
      refine L_u (N_cl Try.func23 rfl nn23 (fun w Q h => s23 _ _ w Q h) h) ?_
      intro v w h
      refine L_mv ?_
      refine L_u (P_ex h) ?_
      intro v w h
      refine L_u (P_ex h) ?_
      intro v w h
      refine L_as ?_
      refine L_as ?_
      refine L_nil ?_
      refine E_n ?_
      refine wp_seq ?_
      refine L_region ?_
      refine L_mv ?_
      refine L_mv ?_
      refine L_u (N_cl Try.func20 rfl nn20 (fun w Q h => s20 _ _ w Q h) h) ?_
      intro v w h
      refine L_mv ?_
      refine L_u (P_ex h) ?_
      intro v w h
      refine L_u (P_ex h) ?_
      intro v w h
      refine L_as ?_
      refine L_as ?_
      refine L_nil ?_
      refine E_n ?_
      refine wp_seq ?_
      refine L_region ?_
      refine L_mv ?_
      refine L_mv ?_
      refine L_u (N_cl Try.func24 rfl nn24 (fun w Q h => s24 _ _ w Q h) h) ?_
      intro v w h
      refine L_mv ?_
      refine L_u (P_ex h) ?_
      intro v w h
      refine L_u (P_ex h) ?_
      intro v w h
      refine L_as ?_
      refine L_as ?_
      refine L_nil ?_
      refine E_n ?_
      refine wp_seq ?_
      refine L_region ?_
      refine L_mv ?_
      refine L_mv ?_
      refine L_u (P_eqi h) ?_
      intro v w h
      refine L_mv ?_
      refine L_g (t := 77) h rfl rfl (fun c h => P_mv h c) ?_
      intro v w h
      refine L_g (t := 77) h rfl rfl (fun c h => P_mv h c) ?_
      intro v w h
      refine L_g (t := 77) h rfl rfl (fun c h => N_cl Try.func13 rfl nn13 (fun w Q h => s13 _ _ w Q h) h c) ?_
      intro v w h
      refine L_u (P_pk h) ?_
      intro v w h
      refine L_mv ?_
      refine L_g (t := 82) h rfl rfl (fun c h => P_mv h c) ?_
      intro v w h
      refine L_g (t := 82) h rfl rfl (fun c h => P_mv h c) ?_
      intro v w h
      refine L_g (t := 82) h rfl rfl (fun c h => P_eqi h c) ?_
      intro v w h
      refine L_u (P_pk h) ?_
      intro v w h
      refine L_mv ?_
      refine L_g (t := 87) h rfl rfl (fun c h => P_mv h c) ?_
      intro v w h
      refine L_g (t := 87) h rfl rfl (fun c h => P_mv h c) ?_
      intro v w h
      refine L_g (t := 87) h rfl rfl (fun c h => N_cl Try.func13 rfl nn13 (fun w Q h => s13 _ _ w Q h) h c) ?_
      intro v w h
      refine L_u (P_pk h) ?_
      intro v w h
      refine L_mv ?_
      refine L_g (t := 92) h rfl rfl (fun c h => P_mv h c) ?_
      intro v w h
      refine L_g (t := 92) h rfl rfl (fun c h => P_mv h c) ?_
      intro v w h
      refine L_g (t := 92) h rfl rfl (fun c h => P_eqi h c) ?_
      intro v w h
      refine L_u (P_pk h) ?_
      intro v w h
      refine L_mv ?_
      refine L_g (t := 97) h rfl rfl (fun c h => P_mv h c) ?_
      intro v w h
      refine L_g (t := 97) h rfl rfl (fun c h => P_mv h c) ?_
      intro v w h
      refine L_g (t := 97) h rfl rfl (fun c h => N_cl Try.func13 rfl nn13 (fun w Q h => s13 _ _ w Q h) h c) ?_
      intro v w h
      refine L_u (P_pk h) ?_
      intro v w h
      refine L_as ?_
      refine L_nil ?_
      refine E_n ?_
      refine C_ret ?_
      show bodyPost Try.prog Try.f7 (Rt Q) .ret _ _
      exact post_tmps (ts := [6]) (.inr rfl) rfl h
end Go.Proofs.Ytlmiimojgledpaa
