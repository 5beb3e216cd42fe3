/- Functions as predicate transformers, and that the machine does what they say, by program. -/
import Derived.Test.YtalekbaohdeakaaF0
set_option linter.unusedVariables false
set_option maxRecDepth 20000
set_option maxHeartbeats 4000000
namespace Go.Proofs.Ytalekbaohdeakaa
open Sh
attribute [local irreducible] wpL anyG act jn lo gdB amb kp smr nc fa ld ldn st stn ad su mu qu re lt le gt ge eqi nei bws shl shr cat eqs nes lts gts eqb neb nt pk cv al bx ex fld fldn lnl lns ia iaa ixs sls sll sla mif mnm mxm mm asrt sm smu cl cc cf ci cnd gd gdu
/- (*factotum/factotumref01.Reader).Str -/
def f25 (t0 t1 : Value) : M :=
  nc t0 fun t7 =>
  fa 2 t7 fun t8 =>
  ld t8 fun t9 =>
  nei .i64 t9 (.int .i64 0) fun t10 =>
  cnd t10 (
    rt (.string ⟨#[]⟩)
    ) (
    cl (f27 t0) fun t12 =>
    lt .i64 t12 (.int .i64 1) fun t13 =>
    cnd t13 (
      nc t0 fun t15 =>
      fa 2 t15 fun t16 =>
      st t16 (.int .i64 2) <|
      rt (.string ⟨#[]⟩)
      ) (
      dr <|
      idv t0 fun t17 =>
      nc t17 fun t18 =>
      fa 0 t18 fun t19 =>
      ld t19 fun t20 =>
      idv t0 fun t21 =>
      nc t21 fun t22 =>
      fa 1 t22 fun t23 =>
      ld t23 fun t24 =>
      ixs t20 t24 fun t25 =>
      cv .i64 t25 fun t26 =>
      idv t26 fun t5 =>
      gt .i64 t5 t1 fun t29 =>
      cnd t29 (
        nc t0 fun t31 =>
        fa 2 t31 fun t32 =>
        st t32 (.int .i64 3) <|
        rt (.string ⟨#[]⟩)
        ) (
        cl (f27 t0) fun t34 =>
        ad .i64 (.int .i64 1) t5 fun t36 =>
        lt .i64 t34 t36 fun t37 =>
        cnd t37 (
          nc t0 fun t39 =>
          fa 2 t39 fun t40 =>
          st t40 (.int .i64 2) <|
          rt (.string ⟨#[]⟩)
          ) (
          nc t0 fun t42 =>
          fa 1 t42 fun t43 =>
          ld t43 fun t44 =>
          ad .i64 (.int .i64 1) t5 fun t46 =>
          ad .i64 t44 t46 fun t47 =>
          nc t0 fun t48 =>
          fa 1 t48 fun t49 =>
          st t49 t47 <|
          dr <|
          idv t0 fun t50 =>
          nc t50 fun t51 =>
          fa 0 t51 fun t52 =>
          ld t52 fun t53 =>
          idv t0 fun t54 =>
          nc t54 fun t55 =>
          fa 1 t55 fun t56 =>
          ld t56 fun t57 =>
          idv t5 fun t58 =>
          su .i64 t57 t58 fun t59 =>
          idv t0 fun t60 =>
          nc t60 fun t61 =>
          fa 1 t61 fun t62 =>
          ld t62 fun t63 =>
          sls t53 (some t59) (some t63) fun t64 =>
          idv t64 fun t4 =>
          rt t4
          )
        )
      )
    )
theorem s25 (t0 t1 : Value) (w : World) (Q : Value → World → Prop) (h : f25 t0 t1 w Q) : Calls Try.prog 25 #[t0, t1] w (Rt Q) := by
  refine calls_of (l := [t0, t1]) Try.func25 rfl Try.ntmps25 (Nat.le_of_ble_eq_true rfl) ?_
  unfold f25 at h
  refine wp_seq ?_
  refine L_region ?_
  refine L_as ?_
  refine L_nil ?_
  refine E_n ?_
  refine wp_seq ?_
  refine wp_seq ?_
  refine L_region ?_
  refine L_mv ?_
  refine L_u (P_nc h) ?_
  intro v w h
  refine L_u (P_fa fo47_2 h) ?_
  intro v w h
  refine L_u (P_ld sc40 h) ?_
  intro v w h
  refine L_u (P_nei h) ?_
  intro v w h
  refine L_nil ?_
  refine E_n ?_
  refine C_cnd h (fun h => ?_) (fun h => ?_)
  · refine wp_seq ?_
    refine L_region ?_
    refine L_as ?_
    refine L_nil ?_
    refine E_n ?_
    refine C_ret ?_
    show bodyPost Try.prog Try.f25 (Rt Q) .ret _ _
    exact post_tmps (ts := [4]) (.inr rfl) rfl h
  · refine C_skip ?_
    refine E_n ?_
    refine wp_seq ?_
    refine wp_seq ?_
    refine L_region ?_
    refine L_mv ?_
    refine L_u (N_cl Try.func27 rfl nn27 (fun w Q h => s27 _ w Q h) h) ?_
    intro v w h
    refine L_u (P_lt h) ?_
    intro v w h
    refine L_nil ?_
    refine E_n ?_
    refine C_cnd h (fun h => ?_) (fun h => ?_)
    · refine wp_seq ?_
      refine L_region ?_
      refine L_mv ?_
      refine L_u (P_nc h) ?_
      intro v w h
      refine L_u (P_fa fo47_2 h) ?_
      intro v w h
      refine L_u (P_st on40 h) ?_
      intro w h
      refine L_nil ?_
      refine E_n ?_
      refine wp_seq ?_
      refine L_region ?_
      refine L_as ?_
      refine L_nil ?_
      refine E_n ?_
      refine C_ret ?_
      show bodyPost Try.prog Try.f25 (Rt Q) .ret _ _
      exact post_tmps (ts := [4]) (.inr rfl) rfl h
    · refine C_skip ?_
      refine E_n ?_
      refine wp_seq ?_
      refine D_region (by decide +kernel) 11 rfl ?_
      replace h := dr_e h
      refine G_p 0 rfl (by decide +kernel) (Y_mv h) ?_
      intro v h
      refine G_p 1 rfl (by decide +kernel) (Y_nc h) ?_
      intro v h
      refine G_p 2 rfl (by decide +kernel) (Y_fa fo47_0 h) ?_
      intro v h
      refine G_r _ 3 rfl (by decide +kernel) (R_ld sc9 h) ?_
      intro v h
      refine G_p 4 rfl (by decide +kernel) (Y_mv h) ?_
      intro v h
      refine G_p 5 rfl (by decide +kernel) (Y_nc h) ?_
      intro v h
      refine G_p 6 rfl (by decide +kernel) (Y_fa fo47_1 h) ?_
      intro v h
      refine G_r _ 7 rfl (by decide +kernel) (R_ld sc3 h) ?_
      intro v h
      refine G_p 8 rfl (by decide +kernel) (Y_ixs st9 h) ?_
      intro v h
      refine G_p 9 rfl (by decide +kernel) (Y_cv ai5 in3 h) ?_
      intro v h
      refine G_p 10 rfl (by decide +kernel) (Y_as h) ?_
      intro v h
      refine G_done (by decide +kernel) ?_
      refine E_n ?_
      refine wp_seq ?_
      refine wp_seq ?_
      refine L_region ?_
      refine L_mv ?_
      refine L_mv ?_
      refine L_u (P_gt h) ?_
      intro v w h
      refine L_nil ?_
      refine E_n ?_
      refine C_cnd h (fun h => ?_) (fun h => ?_)
      · refine wp_seq ?_
        refine L_region ?_
        refine L_mv ?_
        refine L_u (P_nc h) ?_
        intro v w h
        refine L_u (P_fa fo47_2 h) ?_
        intro v w h
        refine L_u (P_st on40 h) ?_
        intro w h
        refine L_nil ?_
        refine E_n ?_
        refine wp_seq ?_
        refine L_region ?_
        refine L_as ?_
        refine L_nil ?_
        refine E_n ?_
        refine C_ret ?_
        show bodyPost Try.prog Try.f25 (Rt Q) .ret _ _
        exact post_tmps (ts := [4]) (.inr rfl) rfl h
      · refine C_skip ?_
        refine E_n ?_
        refine wp_seq ?_
        refine wp_seq ?_
        refine L_region ?_
        refine L_mv ?_
        refine L_u (N_cl Try.func27 rfl nn27 (fun w Q h => s27 _ w Q h) h) ?_
        intro v w h
        refine L_mv ?_
        refine L_u (P_ad h) ?_
        intro v w h
        refine L_u (P_lt h) ?_
        intro v w h
        refine L_nil ?_
        refine E_n ?_
        refine C_cnd h (fun h => ?_) (fun h => ?_)
        · refine wp_seq ?_
          refine L_region ?_
          refine L_mv ?_
          refine L_u (P_nc h) ?_
          intro v w h
          refine L_u (P_fa fo47_2 h) ?_
          intro v w h
          refine L_u (P_st on40 h) ?_
          intro w h
          refine L_nil ?_
          refine E_n ?_
          refine wp_seq ?_
          refine L_region ?_
          refine L_as ?_
          refine L_nil ?_
          refine E_n ?_
          refine C_ret ?_
          show bodyPost Try.prog Try.f25 (Rt Q) .ret _ _
          exact post_tmps (ts := [4]) (.inr rfl) rfl h
        · refine C_skip ?_
          refine E_n ?_
          refine wp_seq ?_
          refine L_region ?_
          refine L_mv ?_
          refine L_u (P_nc h) ?_
          intro v w h
          refine L_u (P_fa fo47_1 h) ?_
          intro v w h
          refine L_u (P_ld sc3 h) ?_
          intro v w h
          refine L_mv ?_
          refine L_u (P_ad h) ?_
          intro v w h
          refine L_u (P_ad h) ?_
          intro v w h
          refine L_u (P_nc h) ?_
          intro v w h
          refine L_u (P_fa fo47_1 h) ?_
          intro v w h
          refine L_u (P_st on3 h) ?_
          intro w h
          refine L_nil ?_
          refine E_n ?_
          refine wp_seq ?_
          refine D_region (by decide +kernel) 16 rfl ?_
          replace h := dr_e h
          refine G_p 0 rfl (by decide +kernel) (Y_mv h) ?_
          intro v h
          refine G_p 1 rfl (by decide +kernel) (Y_nc h) ?_
          intro v h
          refine G_p 2 rfl (by decide +kernel) (Y_fa fo47_0 h) ?_
          intro v h
          refine G_r _ 3 rfl (by decide +kernel) (R_ld sc9 h) ?_
          intro v h
          refine G_p 4 rfl (by decide +kernel) (Y_mv h) ?_
          intro v h
          refine G_p 5 rfl (by decide +kernel) (Y_nc h) ?_
          intro v h
          refine G_p 6 rfl (by decide +kernel) (Y_fa fo47_1 h) ?_
          intro v h
          refine G_r _ 7 rfl (by decide +kernel) (R_ld sc3 h) ?_
          intro v h
          refine G_p 8 rfl (by decide +kernel) (Y_mv h) ?_
          intro v h
          refine G_p 9 rfl (by decide +kernel) (Y_su h) ?_
          intro v h
          refine G_p 10 rfl (by decide +kernel) (Y_mv h) ?_
          intro v h
          refine G_p 11 rfl (by decide +kernel) (Y_nc h) ?_
          intro v h
          refine G_p 12 rfl (by decide +kernel) (Y_fa fo47_1 h) ?_
          intro v h
          refine G_r _ 13 rfl (by decide +kernel) (R_ld sc3 h) ?_
          intro v h
          refine G_p 14 rfl (by decide +kernel) (Y_sls st9 h) ?_
          intro v h
          refine G_p 15 rfl (by decide +kernel) (Y_as h) ?_
          intro v h
          refine G_done (by decide +kernel) ?_
          refine E_n ?_
          refine C_ret ?_
          show bodyPost Try.prog Try.f25 (Rt Q) .ret _ _
          exact post_tmps (ts := [4]) (.inr rfl) rfl h

/- (*factotum/factotumref01.Reader).Done -/
def f28 (t0 : Value) : M :=
  nc t0 fun t4 =>
  fa 2 t4 fun t5 =>
  ld t5 fun t6 =>
  eqi .i64 t6 (.int .i64 0) fun t7 =>
  gd t7 true (idv t0) fun t9 =>
  gd t7 true (cl (f27 t9)) fun t10 =>
  gd t7 true (gt .i64 t10 (.int .i64 0)) fun t11 =>
  pk t7 t11 (.bool false) fun t12 =>
  cnd t12 (
    rt (.int .i64 5)
    ) (
    nc t0 fun t14 =>
    fa 2 t14 fun t15 =>
    ld t15 fun t16 =>
    rt t16
    )
theorem s28 (t0 : Value) (w : World) (Q : Value → World → Prop) (h : f28 t0 w Q) : Calls Try.prog 28 #[t0] w (Rt Q) := by
  refine calls_of (l := [t0]) Try.func28 rfl Try.ntmps28 (Nat.le_of_ble_eq_true rfl) ?_
  unfold f28 at h
  refine wp_seq ?_
  refine L_region ?_
  refine L_as ?_
  refine L_nil ?_
  refine E_n ?_
  refine wp_seq ?_
  refine wp_seq ?_
  refine L_region ?_
  refine L_mv ?_
  refine L_u (P_nc h) ?_
  intro v w h
  refine L_u (P_fa fo47_2 h) ?_
  intro v w h
  refine L_u (P_ld sc40 h) ?_
  intro v w h
  refine L_u (P_eqi h) ?_
  intro v w h
  refine L_mv ?_
  refine L_g (t := 8) h rfl rfl (fun c h => P_mv h c) ?_
  intro v w h
  refine L_g (t := 8) h rfl rfl (fun c h => N_cl Try.func27 rfl nn27 (fun w Q h => s27 _ w Q h) h c) ?_
  intro v w h
  refine L_g (t := 8) h rfl rfl (fun c h => P_gt h c) ?_
  intro v w h
  refine L_u (P_pk h) ?_
  intro v w h
  refine L_nil ?_
  refine E_n ?_
  refine C_cnd h (fun h => ?_) (fun h => ?_)
  · refine wp_seq ?_
    refine L_region ?_
    refine L_as ?_
    refine L_nil ?_
    refine E_n ?_
    refine C_ret ?_
    show bodyPost Try.prog Try.f28 (Rt Q) .ret _ _
    exact post_tmps (ts := [2]) (.inr rfl) rfl h
  · refine C_skip ?_
    refine E_n ?_
    refine wp_seq ?_
    refine L_region ?_
    refine L_mv ?_
    refine L_u (P_nc h) ?_
    intro v w h
    refine L_u (P_fa fo47_2 h) ?_
    intro v w h
    refine L_u (P_ld sc40 h) ?_
    intro v w h
    refine L_as ?_
    refine L_nil ?_
    refine E_n ?_
    refine C_ret ?_
    show bodyPost Try.prog Try.f28 (Rt Q) .ret _ _
    exact post_tmps (ts := [2]) (.inr rfl) rfl h

/- factotum/factotumlaw01.PackReads -/
def f7_j3 (self2 : Value → Value → Value → Value → M) (t1_2 t5_1 t6_1 t7_1 t8_3 : Value) : M :=
  dr <|
  idv t8_3 fun t78 =>
  nt t78 fun t79 =>
  idv t79 fun t80 =>
  gd t80 false (idv t5_1) fun t81 =>
  gd t80 false (idv t6_1) fun t83 =>
  gd t80 false (cl (f23 t81)) fun t82 =>
  gd t80 false (cl (f27 t83)) fun t84 =>
  gd t80 false (nei .i64 t82 t84) fun t85 =>
  pk t80 (.bool true) t85 fun t86 =>
  idv t86 fun t87 =>
  gd t87 false (idv t5_1) fun t88 =>
  gd t87 false (idv t6_1) fun t90 =>
  gd t87 false (nc t90) fun t91 =>
  gd t87 false (fa 2 t91) fun t92 =>
  gd t87 false (ld t92) fun t93 =>
  gd t87 false (cl (f21 t88)) fun t89 =>
  kp (fun w => gdB t87 false = true → Kld t92 t93 w) <|
  gd t87 false (nei .i64 t89 t93) fun t94 =>
  pk t87 (.bool true) t94 fun t95 =>
  idv t95 fun t96 =>
  gd t96 false (idv t5_1) fun t97 =>
  gd t96 false (idv t6_1) fun t99 =>
  gd t96 false (cl (f22 t97)) fun t98 =>
  gd t96 false (cl (f28 t99)) fun t100 =>
  gd t96 false (nei .i64 t98 t100) fun t101 =>
  pk t96 (.bool true) t101 fun t102 =>
  cnd t102 (
    rt (.bool false)
    ) (
    ad .i64 t7_1 (.int .i64 1) fun t21 =>
    self2 t1_2 t5_1 t6_1 t21
    )
def f7_b2 (j1 : M) (self2 : Value → Value → Value → Value → M) (t1_1 t5 t6 t7 : Value) : M :=
  lnl t1_1 fun t18 =>
  lt .i64 t7 t18 fun t19 =>
  cnd t19 (
    ia 4 t1_1 t7 fun t24 =>
    ldn 4 t24 fun t25 =>
    cl (f16 t25) fun t26 =>
    eqi .i64 t26 (.int .i64 0) fun t28 =>
    jn (fun (j3 : Value → Value → Value → Value → Value → M) =>
      cnd t28 (
        dr <|
        idv t5 fun t29 =>
        idv t1_1 fun t30 =>
        idv t7 fun t31 =>
        ia 4 t30 t31 fun t32 =>
        fa 1 t32 fun t33 =>
        ld t33 fun t34 =>
        idv t6 fun t36 =>
        idv t1_1 fun t37 =>
        idv t7 fun t38 =>
        ia 4 t37 t38 fun t39 =>
        fa 1 t39 fun t40 =>
        ld t40 fun t41 =>
        cl (f18 t29 t34) fun t35 =>
        kp (Kld t40 t41) <|
        cl (f24 t36 t41) fun t42 =>
        eqi .u64 t35 t42 fun t43 =>
        idv t43 fun t8 =>
        j3 t1_1 t5 t6 t7 t8
        ) (
        eqi .i64 t26 (.int .i64 1) fun t45 =>
        cnd t45 (
          dr <|
          idv t5 fun t46 =>
          idv t1_1 fun t47 =>
          idv t7 fun t48 =>
          ia 4 t47 t48 fun t49 =>
          fa 1 t49 fun t50 =>
          ld t50 fun t51 =>
          idv t6 fun t53 =>
          idv t1_1 fun t54 =>
          idv t7 fun t55 =>
          ia 4 t54 t55 fun t56 =>
          fa 1 t56 fun t57 =>
          ld t57 fun t58 =>
          cl (f19 t46 t51) fun t52 =>
          kp (Kld t57 t58) <|
          cl (f25 t53 t58) fun t59 =>
          eqs t52 t59 fun t60 =>
          idv t60 fun t8_1 =>
          j3 t1_1 t5 t6 t7 t8_1
          ) (
          eqi .i64 t26 (.int .i64 2) fun t62 =>
          cnd t62 (
            dr <|
            idv t5 fun t63 =>
            idv t1_1 fun t64 =>
            idv t7 fun t65 =>
            ia 4 t64 t65 fun t66 =>
            fa 1 t66 fun t67 =>
            ld t67 fun t68 =>
            idv t6 fun t70 =>
            idv t1_1 fun t71 =>
            idv t7 fun t72 =>
            ia 4 t71 t72 fun t73 =>
            fa 1 t73 fun t74 =>
            ld t74 fun t75 =>
            cl (f20 t63 t68) fun t69 =>
            kp (Kld t74 t75) <|
            cl (f26 t70 t75) fun t76 =>
            eqs t69 t76 fun t77 =>
            idv t77 fun t8_2 =>
            j3 t1_1 t5 t6 t7 t8_2
            ) (
            j3 t1_1 t5 t6 t7 (.bool false)
            )
          )
        )
      ) (f7_j3 self2)
    ) (
    j1
    )
def f7_j1 : M :=
  rt (.bool true)
def f7 (t0 t1 : Value) : M :=
  cl (f9) fun t9 =>
  nt t9 fun t10 =>
  cnd t10 (
    rt (.bool false)
    ) (
    cl (f17 t0) fun t12 =>
    smr Try.prog (Instr.build 47 #[(0, t0)]) fun t14 =>
    bx 47 t14 fun t15 =>
    jn (fun (j1 : M) =>
      lo (fun _ _ _ _ => bot) (f7_b2 j1) (fun l => l t1 t12 t15 (.int .i64 0))
      ) (f7_j1)
    )
theorem s7 (t0 t1 : Value) (w : World) (Q : Value → World → Prop) (h : f7 t0 t1 w Q) : Calls Try.prog 7 #[t0, t1] w (Rt Q) := by
  refine calls_of (l := [t0, t1]) Try.func7 rfl Try.ntmps7 (Nat.le_of_ble_eq_true rfl) ?_
  unfold f7 at h
  refine wp_seq ?_
  refine L_region ?_
  refine L_as ?_
  refine L_nil ?_
  refine E_n ?_
  refine wp_seq ?_
  refine wp_seq ?_
  refine L_region ?_
  refine L_u (N_cl Try.func9 rfl nn9 (fun w Q h => s9 w Q h) h) ?_
  intro v w h
  refine L_u (P_nt h) ?_
  intro v w h
  refine L_nil ?_
  refine E_n ?_
  refine C_cnd h (fun h => ?_) (fun h => ?_)
  · refine wp_seq ?_
    refine L_region ?_
    refine L_as ?_
    refine L_nil ?_
    refine E_n ?_
    refine C_ret ?_
    show bodyPost Try.prog Try.f7 (Rt Q) .ret _ _
    exact post_tmps (ts := [4]) (.inr rfl) rfl h
  · refine C_skip ?_
    refine E_n ?_
    refine wp_seq ?_
    refine L_region ?_
    refine L_mv ?_
    refine L_u (N_cl Try.func17 rfl nn17 (fun w Q h => s17 _ w Q h) h) ?_
    intro v w h
    refine L_mv ?_
    refine L_u (N_bld h) ?_
    intro v w h
    refine L_u (P_bx h) ?_
    intro v w h
    refine L_as ?_
    refine L_as ?_
    refine L_nil ?_
    refine E_n ?_
    refine wp_seq ?_
    refine wp_seq ?_
    refine L_region ?_
    refine L_as ?_
    refine L_nil ?_
    refine E_n ?_
    refine C_join (fun (k : M) (ρ : Nat → Value) => k) h (fun j1 J1 h => ?_) (fun ρ w h => ?_)
    · refine C_blk ?_
      refine C_lo (fun (l : Value → Value → Value → Value → M) (ρ : Nat → Value) => l (ρ 1) (ρ 5) (ρ 6) (ρ 7)) h (fun ρ w h => h) (fun nx self2 L2 ρ w h => ?_)
      unfold f7_b2 at h
      refine wp_seq ?_
      refine wp_seq ?_
      refine L_region ?_
      refine L_mv ?_
      refine L_mv ?_
      refine L_u (P_lnl is34 h) ?_
      intro v w h
      refine L_u (P_lt h) ?_
      intro v w h
      refine L_nil ?_
      refine E_n ?_
      refine C_cnd h (fun h => ?_) (fun h => ?_)
      · refine C_skip ?_
        refine E_n ?_
        refine wp_seq ?_
        refine C_blk ?_
        refine wp_seq ?_
        refine L_region ?_
        refine L_as ?_
        refine L_nil ?_
        refine E_n ?_
        refine wp_seq ?_
        refine wp_seq ?_
        refine L_region ?_
        refine L_mv ?_
        refine L_mv ?_
        refine L_u (P_ia se34 h) ?_
        intro v w h
        refine L_u (P_ldn ag25 h) ?_
        intro v w h
        refine L_u (N_cl Try.func16 rfl nn16 (fun w Q h => s16 _ w Q h) h) ?_
        intro v w h
        refine L_nil ?_
        refine E_n ?_
        refine C_blk ?_
        refine wp_seq ?_
        refine L_region ?_
        refine L_u (P_eqi h) ?_
        intro v w h
        refine L_as ?_
        refine L_nil ?_
        refine E_n ?_
        refine C_join (fun (k : Value → Value → Value → Value → Value → M) (ρ : Nat → Value) => k (ρ 1) (ρ 5) (ρ 6) (ρ 7) (ρ 8)) h (fun j3 J3 h => ?_) (fun ρ w h => ?_)
        · refine C_cnd h (fun h => ?_) (fun h => ?_)
          · refine D_region (by decide +kernel) 16 rfl ?_
            replace h := dr_e h
            refine G_p 0 rfl (by decide +kernel) (Y_mv h) ?_
            intro v h
            refine G_p 1 rfl (by decide +kernel) (Y_mv h) ?_
            intro v h
            refine G_p 2 rfl (by decide +kernel) (Y_mv h) ?_
            intro v h
            refine G_p 3 rfl (by decide +kernel) (Y_ia se34 h) ?_
            intro v h
            refine G_p 4 rfl (by decide +kernel) (Y_fa fo25_1 h) ?_
            intro v h
            refine G_r _ 5 rfl (by decide +kernel) (R_ld sc3 h) ?_
            intro v h
            refine G_p 7 rfl (by decide +kernel) (Y_mv h) ?_
            intro v h
            refine G_p 8 rfl (by decide +kernel) (Y_mv h) ?_
            intro v h
            refine G_p 9 rfl (by decide +kernel) (Y_mv h) ?_
            intro v h
            refine G_p 10 rfl (by decide +kernel) (Y_ia se34 h) ?_
            intro v h
            refine G_p 11 rfl (by decide +kernel) (Y_fa fo25_1 h) ?_
            intro v h
            refine G_r _ 12 rfl (by decide +kernel) (R_ld sc3 h) ?_
            intro v h
            refine G_e 6 rfl (by decide +kernel) (N_cl Try.func18 rfl nn18 (fun w Q h => s18 _ _ w Q h) h ?_)
            intro v w h
            refine ⟨keepF_cons (kp_1 h) (keepF_dep [5] (by decide +kernel) rfl keepF_nil), ?_⟩
            replace h := (kp_2 h)
            refine G_e 13 rfl (by decide +kernel) (N_cl Try.func24 rfl nn24 (fun w Q h => s24 _ _ w Q h) h ?_)
            intro v w h
            refine ⟨keepF_dep [12] (by decide +kernel) rfl (keepF_dep [6, 5] (by decide +kernel) rfl keepF_nil), ?_⟩
            refine G_p 14 rfl (by decide +kernel) (Y_eqi h) ?_
            intro v h
            refine G_p 15 rfl (by decide +kernel) (Y_as h) ?_
            intro v h
            refine G_done (by decide +kernel) ?_
            exact J3 _ _ h
          · refine wp_seq ?_
            refine L_region ?_
            refine L_u (P_eqi h) ?_
            intro v w h
            refine L_as ?_
            refine L_nil ?_
            refine E_n ?_
            refine C_cnd h (fun h => ?_) (fun h => ?_)
            · refine D_region (by decide +kernel) 16 rfl ?_
              replace h := dr_e h
              refine G_p 0 rfl (by decide +kernel) (Y_mv h) ?_
              intro v h
              refine G_p 1 rfl (by decide +kernel) (Y_mv h) ?_
              intro v h
              refine G_p 2 rfl (by decide +kernel) (Y_mv h) ?_
              intro v h
              refine G_p 3 rfl (by decide +kernel) (Y_ia se34 h) ?_
              intro v h
              refine G_p 4 rfl (by decide +kernel) (Y_fa fo25_1 h) ?_
              intro v h
              refine G_r _ 5 rfl (by decide +kernel) (R_ld sc3 h) ?_
              intro v h
              refine G_p 7 rfl (by decide +kernel) (Y_mv h) ?_
              intro v h
              refine G_p 8 rfl (by decide +kernel) (Y_mv h) ?_
              intro v h
              refine G_p 9 rfl (by decide +kernel) (Y_mv h) ?_
              intro v h
              refine G_p 10 rfl (by decide +kernel) (Y_ia se34 h) ?_
              intro v h
              refine G_p 11 rfl (by decide +kernel) (Y_fa fo25_1 h) ?_
              intro v h
              refine G_r _ 12 rfl (by decide +kernel) (R_ld sc3 h) ?_
              intro v h
              refine G_e 6 rfl (by decide +kernel) (N_cl Try.func19 rfl nn19 (fun w Q h => s19 _ _ w Q h) h ?_)
              intro v w h
              refine ⟨keepF_cons (kp_1 h) (keepF_dep [5] (by decide +kernel) rfl keepF_nil), ?_⟩
              replace h := (kp_2 h)
              refine G_e 13 rfl (by decide +kernel) (N_cl Try.func25 rfl nn25 (fun w Q h => s25 _ _ w Q h) h ?_)
              intro v w h
              refine ⟨keepF_dep [12] (by decide +kernel) rfl (keepF_dep [6, 5] (by decide +kernel) rfl keepF_nil), ?_⟩
              refine G_p 14 rfl (by decide +kernel) (Y_eqs h) ?_
              intro v h
              refine G_p 15 rfl (by decide +kernel) (Y_as h) ?_
              intro v h
              refine G_done (by decide +kernel) ?_
              exact J3 _ _ h
            · refine wp_seq ?_
              refine L_region ?_
              refine L_u (P_eqi h) ?_
              intro v w h
              refine L_as ?_
              refine L_nil ?_
              refine E_n ?_
              refine C_cnd h (fun h => ?_) (fun h => ?_)
              · refine D_region (by decide +kernel) 16 rfl ?_
                replace h := dr_e h
                refine G_p 0 rfl (by decide +kernel) (Y_mv h) ?_
                intro v h
                refine G_p 1 rfl (by decide +kernel) (Y_mv h) ?_
                intro v h
                refine G_p 2 rfl (by decide +kernel) (Y_mv h) ?_
                intro v h
                refine G_p 3 rfl (by decide +kernel) (Y_ia se34 h) ?_
                intro v h
                refine G_p 4 rfl (by decide +kernel) (Y_fa fo25_1 h) ?_
                intro v h
                refine G_r _ 5 rfl (by decide +kernel) (R_ld sc3 h) ?_
                intro v h
                refine G_p 7 rfl (by decide +kernel) (Y_mv h) ?_
                intro v h
                refine G_p 8 rfl (by decide +kernel) (Y_mv h) ?_
                intro v h
                refine G_p 9 rfl (by decide +kernel) (Y_mv h) ?_
                intro v h
                refine G_p 10 rfl (by decide +kernel) (Y_ia se34 h) ?_
                intro v h
                refine G_p 11 rfl (by decide +kernel) (Y_fa fo25_1 h) ?_
                intro v h
                refine G_r _ 12 rfl (by decide +kernel) (R_ld sc3 h) ?_
                intro v h
                refine G_e 6 rfl (by decide +kernel) (N_cl Try.func20 rfl nn20 (fun w Q h => s20 _ _ w Q h) h ?_)
                intro v w h
                refine ⟨keepF_cons (kp_1 h) (keepF_dep [5] (by decide +kernel) rfl keepF_nil), ?_⟩
                replace h := (kp_2 h)
                refine G_e 13 rfl (by decide +kernel) (N_cl Try.func26 rfl nn26 (fun w Q h => s26 _ _ w Q h) h ?_)
                intro v w h
                refine ⟨keepF_dep [12] (by decide +kernel) rfl (keepF_dep [6, 5] (by decide +kernel) rfl keepF_nil), ?_⟩
                refine G_p 14 rfl (by decide +kernel) (Y_eqs h) ?_
                intro v h
                refine G_p 15 rfl (by decide +kernel) (Y_as h) ?_
                intro v h
                refine G_done (by decide +kernel) ?_
                exact J3 _ _ h
              · refine C_skip ?_
                exact J3 _ _ h
        · unfold f7_j3 at h
          refine B_n ?_
          refine E_n ?_
          refine wp_seq ?_
          refine D_region (by decide +kernel) 25 rfl ?_
          replace h := dr_e h
          refine G_p 0 rfl (by decide +kernel) (Y_mv h) ?_
          intro v h
          refine G_p 1 rfl (by decide +kernel) (Y_nt h) ?_
          intro v h
          refine G_p 2 rfl (by decide +kernel) (Y_mv h) ?_
          intro v h
          refine G_pg (t := 80) 3 rfl (by decide +kernel) h rfl rfl (fun h => Y_mv h) ?_
          intro v h
          refine G_pg (t := 80) 5 rfl (by decide +kernel) h rfl rfl (fun h => Y_mv h) ?_
          intro v h
          refine G_eg (t := 80) 4 rfl (by decide +kernel) h rfl rfl (fun c h => N_cl Try.func23 rfl nn23 (fun w Q h => s23 _ w Q h) h c) ?_
          intro v w h
          refine ⟨keepF_nil, ?_⟩
          refine G_eg (t := 80) 6 rfl (by decide +kernel) h rfl rfl (fun c h => N_cl Try.func27 rfl nn27 (fun w Q h => s27 _ w Q h) h c) ?_
          intro v w h
          refine ⟨keepF_nil, ?_⟩
          refine G_pg (t := 80) 7 rfl (by decide +kernel) h rfl rfl (fun h => Y_nei h) ?_
          intro v h
          refine G_p 8 rfl (by decide +kernel) (Y_pk h) ?_
          intro v h
          refine G_p 9 rfl (by decide +kernel) (Y_mv h) ?_
          intro v h
          refine G_pg (t := 87) 10 rfl (by decide +kernel) h rfl rfl (fun h => Y_mv h) ?_
          intro v h
          refine G_pg (t := 87) 12 rfl (by decide +kernel) h rfl rfl (fun h => Y_mv h) ?_
          intro v h
          refine G_pg (t := 87) 13 rfl (by decide +kernel) h rfl rfl (fun h => Y_nc h) ?_
          intro v h
          refine G_pg (t := 87) 14 rfl (by decide +kernel) h rfl rfl (fun h => Y_fa fo47_2 h) ?_
          intro v h
          refine G_rg (t := 87) _ 15 rfl (by decide +kernel) h rfl rfl (fun h => R_ld sc40 h) ?_
          intro v h
          refine G_eg (t := 87) 11 rfl (by decide +kernel) h rfl rfl (fun c h => N_cl Try.func21 rfl nn21 (fun w Q h => s21 _ w Q h) h c) ?_
          intro v w h
          refine ⟨keepF_cons (kp_1 h) keepF_nil, ?_⟩
          replace h := (kp_2 h)
          refine G_pg (t := 87) 16 rfl (by decide +kernel) h rfl rfl (fun h => Y_nei h) ?_
          intro v h
          refine G_p 17 rfl (by decide +kernel) (Y_pk h) ?_
          intro v h
          refine G_p 18 rfl (by decide +kernel) (Y_mv h) ?_
          intro v h
          refine G_pg (t := 96) 19 rfl (by decide +kernel) h rfl rfl (fun h => Y_mv h) ?_
          intro v h
          refine G_pg (t := 96) 21 rfl (by decide +kernel) h rfl rfl (fun h => Y_mv h) ?_
          intro v h
          refine G_eg (t := 96) 20 rfl (by decide +kernel) h rfl rfl (fun c h => N_cl Try.func22 rfl nn22 (fun w Q h => s22 _ w Q h) h c) ?_
          intro v w h
          refine ⟨keepF_dep [18, 17, 16, 15] (by decide +kernel) rfl keepF_nil, ?_⟩
          refine G_eg (t := 96) 22 rfl (by decide +kernel) h rfl rfl (fun c h => N_cl Try.func28 rfl nn28 (fun w Q h => s28 _ w Q h) h c) ?_
          intro v w h
          refine ⟨keepF_dep [18, 17, 16, 15] (by decide +kernel) rfl keepF_nil, ?_⟩
          refine G_pg (t := 96) 23 rfl (by decide +kernel) h rfl rfl (fun h => Y_nei h) ?_
          intro v h
          refine G_p 24 rfl (by decide +kernel) (Y_pk h) ?_
          intro v h
          refine G_done (by decide +kernel) ?_
          refine E_n ?_
          refine C_cnd h (fun h => ?_) (fun h => ?_)
          · refine wp_seq ?_
            refine L_region ?_
            refine L_as ?_
            refine L_nil ?_
            refine E_n ?_
            refine C_ret ?_
            show bodyPost Try.prog Try.f7 (Rt Q) .ret _ _
            exact post_tmps (ts := [4]) (.inr rfl) rfl h
          · refine C_skip ?_
            refine B_n ?_
            refine E_n ?_
            refine L_region ?_
            refine L_mv ?_
            refine L_u (P_ad h) ?_
            intro v w h
            refine L_as ?_
            refine L_nil ?_
            refine E_n ?_
            exact L2 _ _ h
      · refine C_exit ?_
        refine E_x ?_
        refine E_x ?_
        refine B_x ?_
        exact J1 _ _ h
    · unfold f7_j1 at h
      refine E_n ?_
      refine wp_seq ?_
      refine L_region ?_
      refine L_as ?_
      refine L_nil ?_
      refine E_n ?_
      refine C_ret ?_
      show bodyPost Try.prog Try.f7 (Rt Q) .ret _ _
      exact post_tmps (ts := [4]) (.inr rfl) rfl h

/- factotum/factotumlaw01.PackNil -/
def f8 (t0 : Value) : M :=
  cl (f9) fun t4 =>
  nt t4 fun t5 =>
  cnd t5 (
    rt (.bool false)
    ) (
    cl (f18 (.pointer none) t0) fun t8 =>
    eqi .u64 t8 (.int .u64 0) fun t9 =>
    gd t9 true (idv (.pointer none)) fun t11 =>
    gd t9 true (idv t0) fun t12 =>
    gd t9 true (cl (f19 t11 t12)) fun t13 =>
    gd t9 true (eqs t13 (.string ⟨#[]⟩)) fun t14 =>
    pk t9 t14 (.bool false) fun t15 =>
    gd t15 true (idv (.pointer none)) fun t17 =>
    gd t15 true (idv t0) fun t18 =>
    gd t15 true (cl (f20 t17 t18)) fun t19 =>
    gd t15 true (eqs t19 (.string ⟨#[]⟩)) fun t20 =>
    pk t15 t20 (.bool false) fun t21 =>
    gd t21 true (idv (.pointer none)) fun t23 =>
    gd t21 true (cl (f23 t23)) fun t24 =>
    gd t21 true (eqi .i64 t24 (.int .i64 0)) fun t25 =>
    pk t21 t25 (.bool false) fun t26 =>
    gd t26 true (idv (.pointer none)) fun t28 =>
    gd t26 true (cl (f21 t28)) fun t29 =>
    gd t26 true (eqi .i64 t29 (.int .i64 1)) fun t30 =>
    pk t26 t30 (.bool false) fun t31 =>
    gd t31 true (idv (.pointer none)) fun t33 =>
    gd t31 true (cl (f22 t33)) fun t34 =>
    gd t31 true (eqi .i64 t34 (.int .i64 1)) fun t35 =>
    pk t31 t35 (.bool false) fun t36 =>
    rt t36
    )
theorem s8 (t0 : Value) (w : World) (Q : Value → World → Prop) (h : f8 t0 w Q) : Calls Try.prog 8 #[t0] w (Rt Q) := by
  refine calls_of (l := [t0]) Try.func8 rfl Try.ntmps8 (Nat.le_of_ble_eq_true rfl) ?_
  unfold f8 at h
  refine wp_seq ?_
  refine L_region ?_
  refine L_as ?_
  refine L_nil ?_
  refine E_n ?_
  refine wp_seq ?_
  refine wp_seq ?_
  refine L_region ?_
  refine L_u (N_cl Try.func9 rfl nn9 (fun w Q h => s9 w Q h) h) ?_
  intro v w h
  refine L_u (P_nt h) ?_
  intro v w h
  refine L_nil ?_
  refine E_n ?_
  refine C_cnd h (fun h => ?_) (fun h => ?_)
  · refine wp_seq ?_
    refine L_region ?_
    refine L_as ?_
    refine L_nil ?_
    refine E_n ?_
    refine C_ret ?_
    show bodyPost Try.prog Try.f8 (Rt Q) .ret _ _
    exact post_tmps (ts := [2]) (.inr rfl) rfl h
  · refine C_skip ?_
    refine E_n ?_
    refine wp_seq ?_
    refine L_region ?_
    refine L_as ?_
    refine L_nil ?_
    refine E_n ?_
    refine wp_seq ?_
    refine L_region ?_
    refine L_mv ?_
    refine L_mv ?_
    refine L_u (N_cl Try.func18 rfl nn18 (fun w Q h => s18 _ _ w Q h) h) ?_
    intro v w h
    refine L_u (P_eqi h) ?_
    intro v w h
    refine L_mv ?_
    refine L_g (t := 10) h rfl rfl (fun c h => P_mv h c) ?_
    intro v w h
    refine L_g (t := 10) h rfl rfl (fun c h => P_mv h c) ?_
    intro v w h
    refine L_g (t := 10) h rfl rfl (fun c h => N_cl Try.func19 rfl nn19 (fun w Q h => s19 _ _ w Q h) h c) ?_
    intro v w h
    refine L_g (t := 10) h rfl rfl (fun c h => P_eqs h c) ?_
    intro v w h
    refine L_u (P_pk h) ?_
    intro v w h
    refine L_mv ?_
    refine L_g (t := 16) h rfl rfl (fun c h => P_mv h c) ?_
    intro v w h
    refine L_g (t := 16) h rfl rfl (fun c h => P_mv h c) ?_
    intro v w h
    refine L_g (t := 16) h rfl rfl (fun c h => N_cl Try.func20 rfl nn20 (fun w Q h => s20 _ _ w Q h) h c) ?_
    intro v w h
    refine L_g (t := 16) h rfl rfl (fun c h => P_eqs h c) ?_
    intro v w h
    refine L_u (P_pk h) ?_
    intro v w h
    refine L_mv ?_
    refine L_g (t := 22) h rfl rfl (fun c h => P_mv h c) ?_
    intro v w h
    refine L_g (t := 22) h rfl rfl (fun c h => N_cl Try.func23 rfl nn23 (fun w Q h => s23 _ w Q h) h c) ?_
    intro v w h
    refine L_g (t := 22) h rfl rfl (fun c h => P_eqi h c) ?_
    intro v w h
    refine L_u (P_pk h) ?_
    intro v w h
    refine L_mv ?_
    refine L_g (t := 27) h rfl rfl (fun c h => P_mv h c) ?_
    intro v w h
    refine L_g (t := 27) h rfl rfl (fun c h => N_cl Try.func21 rfl nn21 (fun w Q h => s21 _ w Q h) h c) ?_
    intro v w h
    refine L_g (t := 27) h rfl rfl (fun c h => P_eqi h c) ?_
    intro v w h
    refine L_u (P_pk h) ?_
    intro v w h
    refine L_mv ?_
    refine L_g (t := 32) h rfl rfl (fun c h => P_mv h c) ?_
    intro v w h
    refine L_g (t := 32) h rfl rfl (fun c h => N_cl Try.func22 rfl nn22 (fun w Q h => s22 _ w Q h) h c) ?_
    intro v w h
    refine L_g (t := 32) h rfl rfl (fun c h => P_eqi h c) ?_
    intro v w h
    refine L_u (P_pk h) ?_
    intro v w h
    refine L_as ?_
    refine L_nil ?_
    refine E_n ?_
    refine C_ret ?_
    show bodyPost Try.prog Try.f8 (Rt Q) .ret _ _
    exact post_tmps (ts := [2]) (.inr rfl) rfl h
end Go.Proofs.Ytalekbaohdeakaa
