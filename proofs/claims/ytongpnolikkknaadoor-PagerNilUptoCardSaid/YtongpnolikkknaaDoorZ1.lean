/- Functions as predicate transformers, and that the machine does what they say, by program. -/
import Derived.Test.YtongpnolikkknaaDoorZ0
import Derived.Lib.ConvBytes
import Derived.Laws.StructEq
import Derived.ChangeKeysEq
import Derived.Lib.AppendStr
import Derived.Laws.BytesArg
import Derived.Laws.OwnMore
set_option linter.unusedVariables false
set_option linter.unusedSimpArgs false
set_option linter.unusedSectionVars false
set_option maxRecDepth 20000
set_option maxHeartbeats 4000000
namespace Go.Proofs.YtongpnolikkknaaDoor
open Sh
attribute [local irreducible] wpL anyG act jn lo gdB amb kp smr nc fa ld ldn st stn ad su mu qu re lt le gt ge eqi nei bws shl shr cat eqs nes lts gts eqb neb nt pk cv al bx ex fld fldn lnl lns ia iaa ixs sls sll sla mif mnm mxm mm asrt sm smu cl cc cf ci cnd gd gdu
/- factotum/factotumlaw05.UndoMark -/
def f5 (t0 t1 t2 : Value) : M :=
  cl (f12) fun t11 =>
  nt t11 fun t12 =>
  cnd t12 (
    rt (.bool false)
    ) (
    cl (f18 t0) fun t14 =>
    cl (f18 t1) fun t16 =>
    lns t14 fun t18 =>
    nei .i64 t18 (.int .i64 64) fun t19 =>
    gd t19 false (idv t16) fun t21 =>
    gd t19 false (lns t21) fun t22 =>
    gd t19 false (nei .i64 t22 (.int .i64 64)) fun t23 =>
    pk t19 (.bool true) t23 fun t24 =>
    gd t24 false (idv t14) fun t26 =>
    gd t24 false (cl (f19 t26)) fun t27 =>
    gd t24 false (idv t0) fun t28 =>
    gd t24 false (neb t27 t28) fun t29 =>
    pk t24 (.bool true) t29 fun t30 =>
    gd t30 false (idv t16) fun t32 =>
    gd t30 false (cl (f19 t32)) fun t33 =>
    gd t30 false (idv t1) fun t34 =>
    gd t30 false (neb t33 t34) fun t35 =>
    pk t30 (.bool true) t35 fun t36 =>
    gd t36 false (cl (f19 (.string ⟨#[]⟩))) fun t38 =>
    pk t36 (.bool true) t38 fun t39 =>
    cnd t39 (
      rt (.bool false)
      ) (
      cv .u64 t2 fun t41 =>
      re .u64 t41 (.int .u64 65) fun t42 =>
      cv .i64 t42 fun t43 =>
      dr <|
      idv t14 fun t44 =>
      idv t43 fun t45 =>
      sls t44 none (some t45) fun t46 =>
      idv t16 fun t47 =>
      idv t43 fun t48 =>
      sls t47 (some t48) none fun t49 =>
      cat t46 t49 fun t50 =>
      cl (f19 t50) fun t51 =>
      idv t51 fun t10 =>
      eqb t10 t0 fun t54 =>
      gd t54 false (idv t10) fun t56 =>
      gd t54 false (idv t1) fun t57 =>
      gd t54 false (eqb t56 t57) fun t58 =>
      pk t54 (.bool true) t58 fun t59 =>
      rt t59
      )
    )
theorem s5 (t0 t1 t2 : Value) (w : World) (Q : Value → World → Prop) (h : f5 t0 t1 t2 w Q) : Calls Tryd.prog 5 #[t0, t1, t2] w (Rt Q) := by
  refine calls_of (l := [t0, t1, t2]) Tryd.func5 rfl Tryd.ntmps5 (Nat.le_of_ble_eq_true rfl) ?_
  unfold f5 at h
  refine wp_seq ?_
  refine L_region ?_
  refine L_as ?_
  refine L_nil ?_
  refine E_n ?_
  refine wp_seq ?_
  refine wp_seq ?_
  refine L_region ?_
  refine L_u (N_cl Tryd.func12 rfl nn12 (fun w Q h => s12 w Q h) h) ?_
  intro v w h
  refine L_u (P_nt h) ?_
  intro v w h
  refine L_nil ?_
  refine E_n ?_
  refine C_cnd h (fun h => ?_) (fun h => ?_)
  · refine wp_seq ?_
    refine L_region ?_
    refine L_as ?_
    refine L_nil ?_
    refine E_n ?_
    refine C_ret ?_
    show bodyPost Tryd.prog Tryd.f5 (Rt Q) .ret _ _
    exact post_tmps (ts := [6]) (.inr rfl) rfl h
  · refine C_skip ?_
    refine E_n ?_
    refine wp_seq ?_
    refine L_region ?_
    refine L_mv ?_
    refine L_u (N_cl Tryd.func18 rfl nn18 (fun w Q h => s18 _ w Q h) h) ?_
    intro v w h
    refine L_mv ?_
    refine L_u (N_cl Tryd.func18 rfl nn18 (fun w Q h => s18 _ w Q h) h) ?_
    intro v w h
    refine L_as ?_
    refine L_as ?_
    refine L_nil ?_
    refine E_n ?_
    refine wp_seq ?_
    refine wp_seq ?_
    refine L_region ?_
    refine L_mv ?_
    refine L_u (P_lns st9 h) ?_
    intro v w h
    refine L_u (P_nei h) ?_
    intro v w h
    refine L_mv ?_
    refine L_g (t := 20) h rfl rfl (fun c h => P_mv h c) ?_
    intro v w h
    refine L_g (t := 20) h rfl rfl (fun c h => P_lns st9 h c) ?_
    intro v w h
    refine L_g (t := 20) h rfl rfl (fun c h => P_nei h c) ?_
    intro v w h
    refine L_u (P_pk h) ?_
    intro v w h
    refine L_mv ?_
    refine L_g (t := 25) h rfl rfl (fun c h => P_mv h c) ?_
    intro v w h
    refine L_g (t := 25) h rfl rfl (fun c h => N_cl Tryd.func19 rfl nn19 (fun w Q h => s19 _ w Q h) h c) ?_
    intro v w h
    refine L_g (t := 25) h rfl rfl (fun c h => P_mv h c) ?_
    intro v w h
    refine L_g (t := 25) h rfl rfl (fun c h => P_neb bo4 h c) ?_
    intro v w h
    refine L_u (P_pk h) ?_
    intro v w h
    refine L_mv ?_
    refine L_g (t := 31) h rfl rfl (fun c h => P_mv h c) ?_
    intro v w h
    refine L_g (t := 31) h rfl rfl (fun c h => N_cl Tryd.func19 rfl nn19 (fun w Q h => s19 _ w Q h) h c) ?_
    intro v w h
    refine L_g (t := 31) h rfl rfl (fun c h => P_mv h c) ?_
    intro v w h
    refine L_g (t := 31) h rfl rfl (fun c h => P_neb bo4 h c) ?_
    intro v w h
    refine L_u (P_pk h) ?_
    intro v w h
    refine L_mv ?_
    refine L_g (t := 37) h rfl rfl (fun c h => N_cl Tryd.func19 rfl nn19 (fun w Q h => s19 _ w Q h) h c) ?_
    intro v w h
    refine L_u (P_pk h) ?_
    intro v w h
    refine L_nil ?_
    refine E_n ?_
    refine C_cnd h (fun h => ?_) (fun h => ?_)
    · refine wp_seq ?_
      refine L_region ?_
      refine L_as ?_
      refine L_nil ?_
      refine E_n ?_
      refine C_ret ?_
      show bodyPost Tryd.prog Tryd.f5 (Rt Q) .ret _ _
      exact post_tmps (ts := [6]) (.inr rfl) rfl h
    · refine C_skip ?_
      refine E_n ?_
      refine wp_seq ?_
      refine L_region ?_
      refine L_mv ?_
      refine L_u (P_cv ai3 in33 h) ?_
      intro v w h
      refine L_u (P_re h) ?_
      intro v w h
      refine L_u (P_cv ai33 in3 h) ?_
      intro v w h
      refine L_as ?_
      refine L_nil ?_
      refine E_n ?_
      refine wp_seq ?_
      refine D_region (by decide +kernel) 9 rfl ?_
      replace h := dr_e h
      refine G_p 0 rfl (by decide +kernel) (Y_mv h) ?_
      intro v h
      refine G_p 1 rfl (by decide +kernel) (Y_mv h) ?_
      intro v h
      refine G_p 2 rfl (by decide +kernel) (Y_sls st9 h) ?_
      intro v h
      refine G_p 3 rfl (by decide +kernel) (Y_mv h) ?_
      intro v h
      refine G_p 4 rfl (by decide +kernel) (Y_mv h) ?_
      intro v h
      refine G_p 5 rfl (by decide +kernel) (Y_sls st9 h) ?_
      intro v h
      refine G_p 6 rfl (by decide +kernel) (Y_cat h) ?_
      intro v h
      refine G_e 7 rfl (by decide +kernel) (N_cl Tryd.func19 rfl nn19 (fun w Q h => s19 _ w Q h) h ?_)
      intro v w h
      refine ⟨keepF_nil, ?_⟩
      refine G_p 8 rfl (by decide +kernel) (Y_as h) ?_
      intro v h
      refine G_done (by decide +kernel) ?_
      refine E_n ?_
      refine wp_seq ?_
      refine L_region ?_
      refine L_mv ?_
      refine L_mv ?_
      refine L_u (P_eqb bo4 h) ?_
      intro v w h
      refine L_mv ?_
      refine L_g (t := 55) h rfl rfl (fun c h => P_mv h c) ?_
      intro v w h
      refine L_g (t := 55) h rfl rfl (fun c h => P_mv h c) ?_
      intro v w h
      refine L_g (t := 55) h rfl rfl (fun c h => P_eqb bo4 h c) ?_
      intro v w h
      refine L_u (P_pk h) ?_
      intro v w h
      refine L_as ?_
      refine L_nil ?_
      refine E_n ?_
      refine C_ret ?_
      show bodyPost Tryd.prog Tryd.f5 (Rt Q) .ret _ _
      exact post_tmps (ts := [6]) (.inr rfl) rfl h

/- factotum/undo.Image -/
def f20 (t0 t1 : Value) : M :=
  mu .i64 (.int .i64 4) t0 fun t6 =>
  ad .i64 (.int .i64 2) t6 fun t7 =>
  ad .i64 t7 t1 fun t9 =>
  rt t9
theorem s20 (t0 t1 : Value) (w : World) (Q : Value → World → Prop) (h : f20 t0 t1 w Q) : Calls Tryd.prog 20 #[t0, t1] w (Rt Q) := by
  refine calls_of (l := [t0, t1]) Tryd.func20 rfl Tryd.ntmps20 (Nat.le_of_ble_eq_true rfl) ?_
  unfold f20 at h
  refine wp_seq ?_
  refine L_region ?_
  refine L_as ?_
  refine L_nil ?_
  refine E_n ?_
  refine wp_seq ?_
  refine L_region ?_
  refine L_mv ?_
  refine L_u (P_mu h) ?_
  intro v w h
  refine L_u (P_ad h) ?_
  intro v w h
  refine L_mv ?_
  refine L_u (P_ad h) ?_
  intro v w h
  refine L_as ?_
  refine L_nil ?_
  refine E_n ?_
  refine C_ret ?_
  show bodyPost Tryd.prog Tryd.f20 (Rt Q) .ret _ _
  exact post_tmps (ts := [4]) (.inr rfl) rfl h

/- factotum/undo.Need -/
def f22 (t0 : Value) : M :=
  cl (f21 t0 (.int .i64 0)) fun t4 =>
  rt t4
theorem s22 (t0 : Value) (w : World) (Q : Value → World → Prop) (h : f22 t0 w Q) : Calls Tryd.prog 22 #[t0] w (Rt Q) := by
  refine calls_of (l := [t0]) Tryd.func22 rfl Tryd.ntmps22 (Nat.le_of_ble_eq_true rfl) ?_
  unfold f22 at h
  refine wp_seq ?_
  refine L_region ?_
  refine L_as ?_
  refine L_nil ?_
  refine E_n ?_
  refine wp_seq ?_
  refine L_region ?_
  refine L_mv ?_
  refine L_u (N_cl Tryd.func21 rfl nn21 (fun w Q h => s21 _ _ w Q h) h) ?_
  intro v w h
  refine L_as ?_
  refine L_nil ?_
  refine E_n ?_
  refine C_ret ?_
  show bodyPost Tryd.prog Tryd.f22 (Rt Q) .ret _ _
  exact post_tmps (ts := [2]) (.inr rfl) rfl h

/- factotum/factotumlaw05.UndoApart -/
def f6 (t0 t1 t2 : Value) : M :=
  bx 35 t0 fun t3 =>
  bx 35 t1 fun t4 =>
  cl (f12) fun t17 =>
  nt t17 fun t18 =>
  cnd t18 (
    rt (.bool false)
    ) (
    cv .u64 t2 fun t20 =>
    re .u64 t20 (.int .u64 1000) fun t21 =>
    cv .i64 t21 fun t22 =>
    ad .i64 t22 (.int .i64 1) fun t23 =>
    dr <|
    iaa 2 1 t3 (.int .i64 0) fun t24 =>
    ld t24 fun t25 =>
    cv .u64 t25 fun t26 =>
    re .u64 t26 (.int .u64 31) fun t27 =>
    cv .i64 t27 fun t28 =>
    iaa 2 1 t3 (.int .i64 1) fun t29 =>
    ld t29 fun t30 =>
    cv .u64 t30 fun t31 =>
    re .u64 t31 (.int .u64 4) fun t32 =>
    cv .i64 t32 fun t33 =>
    idv t28 fun t8 =>
    idv t33 fun t9 =>
    dr <|
    iaa 2 1 t4 (.int .i64 0) fun t34 =>
    ld t34 fun t35 =>
    cv .u64 t35 fun t36 =>
    idv t23 fun t37 =>
    cv .u64 t37 fun t38 =>
    re .u64 t36 t38 fun t39 =>
    cv .i64 t39 fun t40 =>
    iaa 2 1 t4 (.int .i64 1) fun t41 =>
    ld t41 fun t42 =>
    cv .u64 t42 fun t43 =>
    re .u64 t43 (.int .u64 4) fun t44 =>
    cv .i64 t44 fun t45 =>
    idv t40 fun t10 =>
    idv t45 fun t11 =>
    cl (f20 t8 t9) fun t48 =>
    cl (f21 t10 t11) fun t51 =>
    dr <|
    iaa 2 1 t3 (.int .i64 0) fun t52 =>
    ld t52 fun t53 =>
    cv .u64 t53 fun t54 =>
    idv t23 fun t55 =>
    cv .u64 t55 fun t56 =>
    re .u64 t54 t56 fun t57 =>
    cv .i64 t57 fun t58 =>
    iaa 2 1 t3 (.int .i64 1) fun t59 =>
    ld t59 fun t60 =>
    cv .u64 t60 fun t61 =>
    re .u64 t61 (.int .u64 4) fun t62 =>
    cv .i64 t62 fun t63 =>
    idv t58 fun t14 =>
    idv t63 fun t15 =>
    cl (f21 t14 t15) fun t66 =>
    ge .i64 t48 (.int .i64 2) fun t68 =>
    gd t68 true (idv t48) fun t70 =>
    gd t68 true (cl (f21 (.int .i64 0) (.int .i64 0))) fun t71 =>
    gd t68 true (lt .i64 t70 t71) fun t72 =>
    pk t68 t72 (.bool false) fun t73 =>
    gd t73 true (idv t51) fun t75 =>
    gd t73 true (cl (f21 (.int .i64 0) (.int .i64 0))) fun t76 =>
    gd t73 true (ge .i64 t75 t76) fun t77 =>
    pk t73 t77 (.bool false) fun t78 =>
    gd t78 true (idv t51) fun t80 =>
    gd t78 true (idv t23) fun t81 =>
    gd t78 true (cl (f22 t81)) fun t82 =>
    gd t78 true (lt .i64 t80 t82) fun t83 =>
    pk t78 t83 (.bool false) fun t84 =>
    gd t84 true (idv t51) fun t86 =>
    gd t84 true (idv t66) fun t87 =>
    gd t84 true (eqi .i64 t86 t87) fun t88 =>
    gd t84 true (idv t10) fun t89 =>
    gd t84 true (idv t14) fun t90 =>
    gd t84 true (eqi .i64 t89 t90) fun t91 =>
    gd t84 true (idv t91) fun t92 =>
    gd t92 true (idv t11) fun t93 =>
    gd t92 true (idv t15) fun t94 =>
    gd t92 true (eqi .i64 t93 t94) fun t95 =>
    gd t84 true (pk t92 t95 (.bool false)) fun t96 =>
    gd t84 true (eqb t88 t96) fun t97 =>
    pk t84 t97 (.bool false) fun t98 =>
    gd t98 true (idv t48) fun t100 =>
    gd t98 true (idv t8) fun t101 =>
    gd t98 true (mu .i64 (.int .i64 4) t101) fun t102 =>
    gd t98 true (ad .i64 (.int .i64 2) t102) fun t103 =>
    gd t98 true (idv t9) fun t104 =>
    gd t98 true (ad .i64 t103 t104) fun t105 =>
    gd t98 true (eqi .i64 t100 t105) fun t106 =>
    pk t98 t106 (.bool false) fun t107 =>
    gd t107 true (idv t51) fun t109 =>
    gd t107 true (idv t10) fun t110 =>
    gd t107 true (mu .i64 (.int .i64 4) t110) fun t111 =>
    gd t107 true (ad .i64 (.int .i64 126) t111) fun t112 =>
    gd t107 true (idv t11) fun t113 =>
    gd t107 true (ad .i64 t112 t113) fun t114 =>
    gd t107 true (eqi .i64 t109 t114) fun t115 =>
    pk t107 t115 (.bool false) fun t116 =>
    rt t116
    )
theorem s6 (t0 t1 t2 : Value) (w : World) (Q : Value → World → Prop) (h : f6 t0 t1 t2 w Q) : Calls Tryd.prog 6 #[t0, t1, t2] w (Rt Q) := by
  refine calls_of (l := [t0, t1, t2]) Tryd.func6 rfl Tryd.ntmps6 (Nat.le_of_ble_eq_true rfl) ?_
  unfold f6 at h
  refine wp_seq ?_
  refine L_region ?_
  refine L_u (P_bx h) ?_
  intro v w h
  refine L_u (P_bx h) ?_
  intro v w h
  refine L_as ?_
  refine L_nil ?_
  refine E_n ?_
  refine wp_seq ?_
  refine wp_seq ?_
  refine L_region ?_
  refine L_u (N_cl Tryd.func12 rfl nn12 (fun w Q h => s12 w Q h) h) ?_
  intro v w h
  refine L_u (P_nt h) ?_
  intro v w h
  refine L_nil ?_
  refine E_n ?_
  refine C_cnd h (fun h => ?_) (fun h => ?_)
  · refine wp_seq ?_
    refine L_region ?_
    refine L_as ?_
    refine L_nil ?_
    refine E_n ?_
    refine C_ret ?_
    show bodyPost Tryd.prog Tryd.f6 (Rt Q) .ret _ _
    exact post_tmps (ts := [6]) (.inr rfl) rfl h
  · refine C_skip ?_
    refine E_n ?_
    refine wp_seq ?_
    refine L_region ?_
    refine L_mv ?_
    refine L_u (P_cv ai3 in33 h) ?_
    intro v w h
    refine L_u (P_re h) ?_
    intro v w h
    refine L_u (P_cv ai33 in3 h) ?_
    intro v w h
    refine L_u (P_ad h) ?_
    intro v w h
    refine L_as ?_
    refine L_nil ?_
    refine E_n ?_
    refine wp_seq ?_
    refine D_region (by decide +kernel) 12 rfl ?_
    replace h := dr_e h
    refine G_p 0 rfl (by decide +kernel) (Y_iaa ae35 h) ?_
    intro v h
    refine G_r _ 1 rfl (by decide +kernel) (R_ld sc3 h) ?_
    intro v h
    refine G_p 2 rfl (by decide +kernel) (Y_cv ai3 in33 h) ?_
    intro v h
    refine G_p 3 rfl (by decide +kernel) (Y_re h) ?_
    intro v h
    refine G_p 4 rfl (by decide +kernel) (Y_cv ai33 in3 h) ?_
    intro v h
    refine G_p 5 rfl (by decide +kernel) (Y_iaa ae35 h) ?_
    intro v h
    refine G_r _ 6 rfl (by decide +kernel) (R_ld sc3 h) ?_
    intro v h
    refine G_p 7 rfl (by decide +kernel) (Y_cv ai3 in33 h) ?_
    intro v h
    refine G_p 8 rfl (by decide +kernel) (Y_re h) ?_
    intro v h
    refine G_p 9 rfl (by decide +kernel) (Y_cv ai33 in3 h) ?_
    intro v h
    refine G_p 10 rfl (by decide +kernel) (Y_as h) ?_
    intro v h
    refine G_p 11 rfl (by decide +kernel) (Y_as h) ?_
    intro v h
    refine G_done (by decide +kernel) ?_
    refine E_n ?_
    refine wp_seq ?_
    refine D_region (by decide +kernel) 14 rfl ?_
    replace h := dr_e h
    refine G_p 0 rfl (by decide +kernel) (Y_iaa ae35 h) ?_
    intro v h
    refine G_r _ 1 rfl (by decide +kernel) (R_ld sc3 h) ?_
    intro v h
    refine G_p 2 rfl (by decide +kernel) (Y_cv ai3 in33 h) ?_
    intro v h
    refine G_p 3 rfl (by decide +kernel) (Y_mv h) ?_
    intro v h
    refine G_p 4 rfl (by decide +kernel) (Y_cv ai3 in33 h) ?_
    intro v h
    refine G_p 5 rfl (by decide +kernel) (Y_re h) ?_
    intro v h
    refine G_p 6 rfl (by decide +kernel) (Y_cv ai33 in3 h) ?_
    intro v h
    refine G_p 7 rfl (by decide +kernel) (Y_iaa ae35 h) ?_
    intro v h
    refine G_r _ 8 rfl (by decide +kernel) (R_ld sc3 h) ?_
    intro v h
    refine G_p 9 rfl (by decide +kernel) (Y_cv ai3 in33 h) ?_
    intro v h
    refine G_p 10 rfl (by decide +kernel) (Y_re h) ?_
    intro v h
    refine G_p 11 rfl (by decide +kernel) (Y_cv ai33 in3 h) ?_
    intro v h
    refine G_p 12 rfl (by decide +kernel) (Y_as h) ?_
    intro v h
    refine G_p 13 rfl (by decide +kernel) (Y_as h) ?_
    intro v h
    refine G_done (by decide +kernel) ?_
    refine E_n ?_
    refine wp_seq ?_
    refine L_region ?_
    refine L_mv ?_
    refine L_mv ?_
    refine L_u (N_cl Tryd.func20 rfl nn20 (fun w Q h => s20 _ _ w Q h) h) ?_
    intro v w h
    refine L_mv ?_
    refine L_mv ?_
    refine L_u (N_cl Tryd.func21 rfl nn21 (fun w Q h => s21 _ _ w Q h) h) ?_
    intro v w h
    refine L_as ?_
    refine L_as ?_
    refine L_nil ?_
    refine E_n ?_
    refine wp_seq ?_
    refine D_region (by decide +kernel) 14 rfl ?_
    replace h := dr_e h
    refine G_p 0 rfl (by decide +kernel) (Y_iaa ae35 h) ?_
    intro v h
    refine G_r _ 1 rfl (by decide +kernel) (R_ld sc3 h) ?_
    intro v h
    refine G_p 2 rfl (by decide +kernel) (Y_cv ai3 in33 h) ?_
    intro v h
    refine G_p 3 rfl (by decide +kernel) (Y_mv h) ?_
    intro v h
    refine G_p 4 rfl (by decide +kernel) (Y_cv ai3 in33 h) ?_
    intro v h
    refine G_p 5 rfl (by decide +kernel) (Y_re h) ?_
    intro v h
    refine G_p 6 rfl (by decide +kernel) (Y_cv ai33 in3 h) ?_
    intro v h
    refine G_p 7 rfl (by decide +kernel) (Y_iaa ae35 h) ?_
    intro v h
    refine G_r _ 8 rfl (by decide +kernel) (R_ld sc3 h) ?_
    intro v h
    refine G_p 9 rfl (by decide +kernel) (Y_cv ai3 in33 h) ?_
    intro v h
    refine G_p 10 rfl (by decide +kernel) (Y_re h) ?_
    intro v h
    refine G_p 11 rfl (by decide +kernel) (Y_cv ai33 in3 h) ?_
    intro v h
    refine G_p 12 rfl (by decide +kernel) (Y_as h) ?_
    intro v h
    refine G_p 13 rfl (by decide +kernel) (Y_as h) ?_
    intro v h
    refine G_done (by decide +kernel) ?_
    refine E_n ?_
    refine wp_seq ?_
    refine L_region ?_
    refine L_mv ?_
    refine L_mv ?_
    refine L_u (N_cl Tryd.func21 rfl nn21 (fun w Q h => s21 _ _ w Q h) h) ?_
    intro v w h
    refine L_as ?_
    refine L_nil ?_
    refine E_n ?_
    refine wp_seq ?_
    refine L_region ?_
    refine L_mv ?_
    refine L_u (P_ge h) ?_
    intro v w h
    refine L_mv ?_
    refine L_g (t := 69) h rfl rfl (fun c h => P_mv h c) ?_
    intro v w h
    refine L_g (t := 69) h rfl rfl (fun c h => N_cl Tryd.func21 rfl nn21 (fun w Q h => s21 _ _ w Q h) h c) ?_
    intro v w h
    refine L_g (t := 69) h rfl rfl (fun c h => P_lt h c) ?_
    intro v w h
    refine L_u (P_pk h) ?_
    intro v w h
    refine L_mv ?_
    refine L_g (t := 74) h rfl rfl (fun c h => P_mv h c) ?_
    intro v w h
    refine L_g (t := 74) h rfl rfl (fun c h => N_cl Tryd.func21 rfl nn21 (fun w Q h => s21 _ _ w Q h) h c) ?_
    intro v w h
    refine L_g (t := 74) h rfl rfl (fun c h => P_ge h c) ?_
    intro v w h
    refine L_u (P_pk h) ?_
    intro v w h
    refine L_mv ?_
    refine L_g (t := 79) h rfl rfl (fun c h => P_mv h c) ?_
    intro v w h
    refine L_g (t := 79) h rfl rfl (fun c h => P_mv h c) ?_
    intro v w h
    refine L_g (t := 79) h rfl rfl (fun c h => N_cl Tryd.func22 rfl nn22 (fun w Q h => s22 _ w Q h) h c) ?_
    intro v w h
    refine L_g (t := 79) h rfl rfl (fun c h => P_lt h c) ?_
    intro v w h
    refine L_u (P_pk h) ?_
    intro v w h
    refine L_mv ?_
    refine L_g (t := 85) h rfl rfl (fun c h => P_mv h c) ?_
    intro v w h
    refine L_g (t := 85) h rfl rfl (fun c h => P_mv h c) ?_
    intro v w h
    refine L_g (t := 85) h rfl rfl (fun c h => P_eqi h c) ?_
    intro v w h
    refine L_g (t := 85) h rfl rfl (fun c h => P_mv h c) ?_
    intro v w h
    refine L_g (t := 85) h rfl rfl (fun c h => P_mv h c) ?_
    intro v w h
    refine L_g (t := 85) h rfl rfl (fun c h => P_eqi h c) ?_
    intro v w h
    refine L_g (t := 85) h rfl rfl (fun c h => P_mv h c) ?_
    intro v w h
    refine L_g (t := 92) h rfl rfl (fun c h => P_mv h c) ?_
    intro v w h
    refine L_g (t := 92) h rfl rfl (fun c h => P_mv h c) ?_
    intro v w h
    refine L_g (t := 92) h rfl rfl (fun c h => P_eqi h c) ?_
    intro v w h
    refine L_g (t := 85) h rfl rfl (fun c h => P_pk h c) ?_
    intro v w h
    refine L_g (t := 85) h rfl rfl (fun c h => P_eqb bo4 h c) ?_
    intro v w h
    refine L_u (P_pk h) ?_
    intro v w h
    refine L_mv ?_
    refine L_g (t := 99) h rfl rfl (fun c h => P_mv h c) ?_
    intro v w h
    refine L_g (t := 99) h rfl rfl (fun c h => P_mv h c) ?_
    intro v w h
    refine L_g (t := 99) h rfl rfl (fun c h => P_mu h c) ?_
    intro v w h
    refine L_g (t := 99) h rfl rfl (fun c h => P_ad h c) ?_
    intro v w h
    refine L_g (t := 99) h rfl rfl (fun c h => P_mv h c) ?_
    intro v w h
    refine L_g (t := 99) h rfl rfl (fun c h => P_ad h c) ?_
    intro v w h
    refine L_g (t := 99) h rfl rfl (fun c h => P_eqi h c) ?_
    intro v w h
    refine L_u (P_pk h) ?_
    intro v w h
    refine L_mv ?_
    refine L_g (t := 108) h rfl rfl (fun c h => P_mv h c) ?_
    intro v w h
    refine L_g (t := 108) h rfl rfl (fun c h => P_mv h c) ?_
    intro v w h
    refine L_g (t := 108) h rfl rfl (fun c h => P_mu h c) ?_
    intro v w h
    refine L_g (t := 108) h rfl rfl (fun c h => P_ad h c) ?_
    intro v w h
    refine L_g (t := 108) h rfl rfl (fun c h => P_mv h c) ?_
    intro v w h
    refine L_g (t := 108) h rfl rfl (fun c h => P_ad h c) ?_
    intro v w h
    refine L_g (t := 108) h rfl rfl (fun c h => P_eqi h c) ?_
    intro v w h
    refine L_u (P_pk h) ?_
    intro v w h
    refine L_as ?_
    refine L_nil ?_
    refine E_n ?_
    refine C_ret ?_
    show bodyPost Tryd.prog Tryd.f6 (Rt Q) .ret _ _
    exact post_tmps (ts := [6]) (.inr rfl) rfl h

/- factotum/undo.Cut -/
def f23_b2 (j1 : Value → M) (self2 : Value → Value → M) (t0_1 t4 : Value) : M :=
  nes t0_1 (.string ⟨#[]⟩) fun t9 =>
  cnd t9 (
    sls t0_1 none (some (.int .i64 64)) fun t12 =>
    sm Tryd.prog (Instr.buildSlice 39 1 #[(0, t12)]) fun t13 =>
    sm Tryd.prog (Builtin.append_ #[39, 39] 39 #[t4, t13]) fun t14 =>
    sls t0_1 (some (.int .i64 64)) none fun t16 =>
    self2 t16 t14
    ) (
    j1 t4
    )
def f23_j1 (t4_1 : Value) : M :=
  rt (.tuple #[t4_1, (.int .i64 0)])
def f23 (t0 : Value) : M :=
  lns t0 fun t6 =>
  nei .i64 t6 (.int .i64 256) fun t7 =>
  cnd t7 (
    rt (.tuple #[(.slice none 0 0), (.int .i64 1)])
    ) (
    jn (fun (j1 : Value → M) =>
      lo (fun _ _ => bot) (f23_b2 j1) (fun l => l t0 (.slice none 0 0))
      ) (f23_j1)
    )
theorem s23 (t0 : Value) (w : World) (Q : Value → World → Prop) (h : f23 t0 w Q) : Calls Tryd.prog 23 #[t0] w (Rt Q) := by
  refine calls_of (l := [t0]) Tryd.func23 rfl Tryd.ntmps23 (Nat.le_of_ble_eq_true rfl) ?_
  unfold f23 at h
  refine wp_seq ?_
  refine L_region ?_
  refine L_as ?_
  refine L_as ?_
  refine L_nil ?_
  refine E_n ?_
  refine wp_seq ?_
  refine wp_seq ?_
  refine L_region ?_
  refine L_mv ?_
  refine L_u (P_lns st9 h) ?_
  intro v w h
  refine L_u (P_nei h) ?_
  intro v w h
  refine L_nil ?_
  refine E_n ?_
  refine C_cnd h (fun h => ?_) (fun h => ?_)
  · refine wp_seq ?_
    refine L_region ?_
    refine L_as ?_
    refine L_as ?_
    refine L_nil ?_
    refine E_n ?_
    refine C_ret ?_
    show bodyPost Tryd.prog Tryd.f23 (Rt Q) .ret _ _
    exact post_tmps (ts := [2, 3]) (.inr rfl) rfl h
  · refine C_skip ?_
    refine E_n ?_
    refine wp_seq ?_
    refine L_region ?_
    refine L_as ?_
    refine L_nil ?_
    refine E_n ?_
    refine wp_seq ?_
    refine C_join (fun (k : Value → M) (ρ : Nat → Value) => k (ρ 4)) h (fun j1 J1 h => ?_) (fun ρ w h => ?_)
    · refine C_blk ?_
      refine C_lo (fun (l : Value → Value → M) (ρ : Nat → Value) => l (ρ 0) (ρ 4)) h (fun ρ w h => h) (fun nx self2 L2 ρ w h => ?_)
      unfold f23_b2 at h
      refine wp_seq ?_
      refine wp_seq ?_
      refine L_region ?_
      refine L_mv ?_
      refine L_u (P_nes h) ?_
      intro v w h
      refine L_nil ?_
      refine E_n ?_
      refine C_cnd h (fun h => ?_) (fun h => ?_)
      · refine C_skip ?_
        refine E_n ?_
        refine C_blk ?_
        refine wp_seq ?_
        refine L_region ?_
        refine L_mv ?_
        refine L_mv ?_
        refine L_u (P_sls st9 h) ?_
        intro v w h
        refine L_u (N_bsl h) ?_
        intro v w h
        refine L_u (N_bi rfl h) ?_
        intro v w h
        refine L_as ?_
        refine L_nil ?_
        refine E_n ?_
        refine L_region ?_
        refine L_mv ?_
        refine L_u (P_sls st9 h) ?_
        intro v w h
        refine L_as ?_
        refine L_nil ?_
        refine B_n ?_
        refine E_n ?_
        exact L2 _ _ h
      · refine C_exit ?_
        refine E_x ?_
        refine E_x ?_
        refine B_x ?_
        exact J1 _ _ h
    · unfold f23_j1 at h
      refine E_n ?_
      refine wp_seq ?_
      refine L_region ?_
      refine L_mv ?_
      refine L_as ?_
      refine L_as ?_
      refine L_nil ?_
      refine E_n ?_
      refine C_ret ?_
      show bodyPost Tryd.prog Tryd.f23 (Rt Q) .ret _ _
      exact post_tmps (ts := [2, 3]) (.inr rfl) rfl h

/- factotum/factotumref05.Cut -/
def f24_b2 (j1 : Value → M) (self2 : Value → Value → Value → M) (t0_1 t4 t5 : Value) : M :=
  lt .i64 t5 (.int .i64 256) fun t10 =>
  cnd t10 (
    ad .i64 t5 (.int .i64 64) fun t17 =>
    sls t0_1 (some t5) (some t17) fun t18 =>
    sm Tryd.prog (Instr.buildSlice 39 1 #[(0, t18)]) fun t19 =>
    sm Tryd.prog (Builtin.append_ #[39, 39] 39 #[t4, t19]) fun t20 =>
    ad .i64 t5 (.int .i64 64) fun t12 =>
    self2 t0_1 t20 t12
    ) (
    j1 t4
    )
def f24_j1 (t4_1 : Value) : M :=
  rt (.tuple #[t4_1, (.int .i64 0)])
def f24 (t0 : Value) : M :=
  lns t0 fun t7 =>
  nei .i64 t7 (.int .i64 256) fun t8 =>
  cnd t8 (
    rt (.tuple #[(.slice none 0 0), (.int .i64 1)])
    ) (
    jn (fun (j1 : Value → M) =>
      lo (fun _ _ _ => bot) (f24_b2 j1) (fun l => l t0 (.slice none 0 0) (.int .i64 0))
      ) (f24_j1)
    )
theorem s24 (t0 : Value) (w : World) (Q : Value → World → Prop) (h : f24 t0 w Q) : Calls Tryd.prog 24 #[t0] w (Rt Q) := by
  refine calls_of (l := [t0]) Tryd.func24 rfl Tryd.ntmps24 (Nat.le_of_ble_eq_true rfl) ?_
  unfold f24 at h
  refine wp_seq ?_
  refine L_region ?_
  refine L_as ?_
  refine L_as ?_
  refine L_nil ?_
  refine E_n ?_
  refine wp_seq ?_
  refine wp_seq ?_
  refine L_region ?_
  refine L_mv ?_
  refine L_u (P_lns st9 h) ?_
  intro v w h
  refine L_u (P_nei h) ?_
  intro v w h
  refine L_nil ?_
  refine E_n ?_
  refine C_cnd h (fun h => ?_) (fun h => ?_)
  · refine wp_seq ?_
    refine L_region ?_
    refine L_as ?_
    refine L_as ?_
    refine L_nil ?_
    refine E_n ?_
    refine C_ret ?_
    show bodyPost Tryd.prog Tryd.f24 (Rt Q) .ret _ _
    exact post_tmps (ts := [2, 3]) (.inr rfl) rfl h
  · refine C_skip ?_
    refine E_n ?_
    refine wp_seq ?_
    refine L_region ?_
    refine L_as ?_
    refine L_nil ?_
    refine E_n ?_
    refine wp_seq ?_
    refine wp_seq ?_
    refine L_region ?_
    refine L_as ?_
    refine L_nil ?_
    refine E_n ?_
    refine C_join (fun (k : Value → M) (ρ : Nat → Value) => k (ρ 4)) h (fun j1 J1 h => ?_) (fun ρ w h => ?_)
    · refine C_blk ?_
      refine C_lo (fun (l : Value → Value → Value → M) (ρ : Nat → Value) => l (ρ 0) (ρ 4) (ρ 5)) h (fun ρ w h => h) (fun nx self2 L2 ρ w h => ?_)
      unfold f24_b2 at h
      refine wp_seq ?_
      refine wp_seq ?_
      refine L_region ?_
      refine L_mv ?_
      refine L_u (P_lt h) ?_
      intro v w h
      refine L_nil ?_
      refine E_n ?_
      refine C_cnd h (fun h => ?_) (fun h => ?_)
      · refine C_skip ?_
        refine E_n ?_
        refine wp_seq ?_
        refine C_blk ?_
        refine L_region ?_
        refine L_mv ?_
        refine L_mv ?_
        refine L_mv ?_
        refine L_mv ?_
        refine L_u (P_ad h) ?_
        intro v w h
        refine L_u (P_sls st9 h) ?_
        intro v w h
        refine L_u (N_bsl h) ?_
        intro v w h
        refine L_u (N_bi rfl h) ?_
        intro v w h
        refine L_as ?_
        refine L_nil ?_
        refine B_n ?_
        refine E_n ?_
        refine L_region ?_
        refine L_mv ?_
        refine L_u (P_ad h) ?_
        intro v w h
        refine L_as ?_
        refine L_nil ?_
        refine E_n ?_
        exact L2 _ _ h
      · refine C_exit ?_
        refine E_x ?_
        refine E_x ?_
        refine B_x ?_
        exact J1 _ _ h
    · unfold f24_j1 at h
      refine E_n ?_
      refine wp_seq ?_
      refine L_region ?_
      refine L_mv ?_
      refine L_as ?_
      refine L_as ?_
      refine L_nil ?_
      refine E_n ?_
      refine C_ret ?_
      show bodyPost Tryd.prog Tryd.f24 (Rt Q) .ret _ _
      exact post_tmps (ts := [2, 3]) (.inr rfl) rfl h

/- slices.IndexFunc[[]string,string] -/
def f89_b2 (j1 : M) (self2 : Value → Value → Value → Value → M) (t0_1 t1_1 t7_1 t8 : Value) : M :=
  lt .i64 t8 t7_1 fun t9 =>
  cnd t9 (
    ia 1 t0_1 t8 fun t14 =>
    ld t14 fun t15 =>
    cf Tryd.prog t1_1 #[t15] fun t16 =>
    cnd t16 (
      rt t8
      ) (
      ad .i64 t8 (.int .i64 1) fun t18 =>
      self2 t0_1 t1_1 t7_1 t18
      )
    ) (
    j1
    )
def f89_j1 : M :=
  rt (.int .i64 (-1))
def f89 (t0 t1 : Value) : M :=
  lnl t0 fun t7 =>
  jn (fun (j1 : M) =>
    lo (fun _ _ _ _ => bot) (f89_b2 j1) (fun l => l t0 t1 t7 (.int .i64 0))
    ) (f89_j1)
theorem s89 (t0 t1 : Value) (w : World) (Q : Value → World → Prop) (h : f89 t0 t1 w Q) : Calls Tryd.prog 89 #[t0, t1] w (Rt Q) := by
  refine calls_of (l := [t0, t1]) Tryd.func89 rfl Tryd.ntmps89 (Nat.le_of_ble_eq_true rfl) ?_
  unfold f89 at h
  refine wp_seq ?_
  refine L_region ?_
  refine L_as ?_
  refine L_nil ?_
  refine E_n ?_
  refine wp_seq ?_
  refine wp_seq ?_
  refine L_region ?_
  refine L_mv ?_
  refine L_u (P_lnl is39 h) ?_
  intro v w h
  refine L_mv ?_
  refine L_nil ?_
  refine E_n ?_
  refine C_join (fun (k : M) (ρ : Nat → Value) => k) h (fun j1 J1 h => ?_) (fun ρ w h => ?_)
  · refine C_blk ?_
    refine C_lo (fun (l : Value → Value → Value → Value → M) (ρ : Nat → Value) => l (ρ 0) (ρ 1) (ρ 7) (ρ 8)) h (fun ρ w h => h) (fun nx self2 L2 ρ w h => ?_)
    unfold f89_b2 at h
    refine wp_seq ?_
    refine L_region ?_
    refine L_u (P_lt h) ?_
    intro v w h
    refine L_nil ?_
    refine E_n ?_
    refine wp_seq ?_
    refine C_cnd h (fun h => ?_) (fun h => ?_)
    · refine C_skip ?_
      refine E_n ?_
      refine wp_seq ?_
      refine C_blk ?_
      refine wp_seq ?_
      refine L_region ?_
      refine L_mv ?_
      refine L_as ?_
      refine L_nil ?_
      refine E_n ?_
      refine wp_seq ?_
      refine L_region ?_
      refine L_mv ?_
      refine L_mv ?_
      refine L_mv ?_
      refine L_u (P_ia se39 h) ?_
      intro v w h
      refine L_u (P_ld sc9 h) ?_
      intro v w h
      refine L_u (N_cf h) ?_
      intro v w h
      refine L_nil ?_
      refine E_n ?_
      refine C_cnd h (fun h => ?_) (fun h => ?_)
      · refine wp_seq ?_
        refine L_region ?_
        refine L_mv ?_
        refine L_as ?_
        refine L_nil ?_
        refine E_n ?_
        refine C_ret ?_
        show bodyPost Tryd.prog Tryd.f89 (Rt Q) .ret _ _
        exact post_tmps (ts := [4]) (.inr rfl) rfl h
      · refine C_skip ?_
        refine B_n ?_
        refine E_n ?_
        refine L_region ?_
        refine L_u (P_ad h) ?_
        intro v w h
        refine L_mv ?_
        refine L_nil ?_
        refine E_n ?_
        exact L2 _ _ h
    · refine C_exit ?_
      refine E_x ?_
      refine E_x ?_
      refine B_x ?_
      exact J1 _ _ h
  · unfold f89_j1 at h
    refine E_n ?_
    refine wp_seq ?_
    refine L_region ?_
    refine L_as ?_
    refine L_nil ?_
    refine E_n ?_
    refine C_ret ?_
    show bodyPost Tryd.prog Tryd.f89 (Rt Q) .ret _ _
    exact post_tmps (ts := [4]) (.inr rfl) rfl h

/- slices.ContainsFunc[[]string,string] -/
def f60 (t0 t1 : Value) : M :=
  cl (f89 t0 t1) fun t7 =>
  ge .i64 t7 (.int .i64 0) fun t8 =>
  rt t8
theorem s60 (t0 t1 : Value) (w : World) (Q : Value → World → Prop) (h : f60 t0 t1 w Q) : Calls Tryd.prog 60 #[t0, t1] w (Rt Q) := by
  refine calls_of (l := [t0, t1]) Tryd.func60 rfl Tryd.ntmps60 (Nat.le_of_ble_eq_true rfl) ?_
  unfold f60 at h
  refine wp_seq ?_
  refine L_region ?_
  refine L_as ?_
  refine L_nil ?_
  refine E_n ?_
  refine wp_seq ?_
  refine L_region ?_
  refine L_mv ?_
  refine L_mv ?_
  refine L_u (N_cl Tryd.func89 rfl nn89 (fun w Q h => s89 _ _ w Q h) h) ?_
  intro v w h
  refine L_u (P_ge h) ?_
  intro v w h
  refine L_as ?_
  refine L_nil ?_
  refine E_n ?_
  refine C_ret ?_
  show bodyPost Tryd.prog Tryd.f60 (Rt Q) .ret _ _
  exact post_tmps (ts := [4]) (.inr rfl) rfl h

/- factotum/undo.Join$1 -/
def f61 (t0 : Value) : M :=
  lns t0 fun t4 =>
  nei .i64 t4 (.int .i64 64) fun t5 =>
  rt t5
theorem s61 (t0 : Value) (w : World) (Q : Value → World → Prop) (h : f61 t0 w Q) : Calls Tryd.prog 61 #[t0] w (Rt Q) := by
  refine calls_of (l := [t0]) Tryd.func61 rfl Tryd.ntmps61 (Nat.le_of_ble_eq_true rfl) ?_
  unfold f61 at h
  refine wp_seq ?_
  refine L_region ?_
  refine L_as ?_
  refine L_nil ?_
  refine E_n ?_
  refine wp_seq ?_
  refine L_region ?_
  refine L_mv ?_
  refine L_u (P_lns st9 h) ?_
  intro v w h
  refine L_u (P_nei h) ?_
  intro v w h
  refine L_as ?_
  refine L_nil ?_
  refine E_n ?_
  refine C_ret ?_
  show bodyPost Tryd.prog Tryd.f61 (Rt Q) .ret _ _
  exact post_tmps (ts := [2]) (.inr rfl) rfl h

/- factotum/undo.Join -/
def f25 (t0 : Value) : M :=
  lnl t0 fun t5 =>
  nei .i64 t5 (.int .i64 4) fun t6 =>
  gd t6 false (idv t0) fun t8 =>
  gd t6 false (cl (f60 t8 (.func (.func 61) #[] #[]))) fun t9 =>
  pk t6 (.bool true) t9 fun t10 =>
  cnd t10 (
    rt (.tuple #[(.string ⟨#[]⟩), (.int .i64 1)])
    ) (
    cc Tryd.prog 62 #[t0, (.string ⟨#[]⟩)] fun t12 =>
    rt (.tuple #[t12, (.int .i64 0)])
    )
theorem s25 (t0 : Value) (w : World) (Q : Value → World → Prop) (h : f25 t0 w Q) : Calls Tryd.prog 25 #[t0] w (Rt Q) := by
  refine calls_of (l := [t0]) Tryd.func25 rfl Tryd.ntmps25 (Nat.le_of_ble_eq_true rfl) ?_
  unfold f25 at h
  refine wp_seq ?_
  refine L_region ?_
  refine L_as ?_
  refine L_as ?_
  refine L_nil ?_
  refine E_n ?_
  refine wp_seq ?_
  refine wp_seq ?_
  refine L_region ?_
  refine L_mv ?_
  refine L_u (P_lnl is39 h) ?_
  intro v w h
  refine L_u (P_nei h) ?_
  intro v w h
  refine L_mv ?_
  refine L_g (t := 7) h rfl rfl (fun c h => P_mv h c) ?_
  intro v w h
  refine L_g (t := 7) h rfl rfl (fun c h => N_cl Tryd.func60 rfl nn60 (fun w Q h => s60 _ _ w Q h) h c) ?_
  intro v w h
  refine L_u (P_pk h) ?_
  intro v w h
  refine L_nil ?_
  refine E_n ?_
  refine C_cnd h (fun h => ?_) (fun h => ?_)
  · refine wp_seq ?_
    refine L_region ?_
    refine L_as ?_
    refine L_as ?_
    refine L_nil ?_
    refine E_n ?_
    refine C_ret ?_
    show bodyPost Tryd.prog Tryd.f25 (Rt Q) .ret _ _
    exact post_tmps (ts := [2, 3]) (.inr rfl) rfl h
  · refine C_skip ?_
    refine E_n ?_
    refine wp_seq ?_
    refine L_region ?_
    refine L_mv ?_
    refine L_u (N_cc Tryd.func62 rfl nn62 h) ?_
    intro v w h
    refine L_as ?_
    refine L_as ?_
    refine L_nil ?_
    refine E_n ?_
    refine C_ret ?_
    show bodyPost Tryd.prog Tryd.f25 (Rt Q) .ret _ _
    exact post_tmps (ts := [2, 3]) (.inr rfl) rfl h

/- factotum/factotumref05.Join -/
def f26_b2 (j1 : Value → M) (self2 : Value → Value → Value → M) (t0_1 t4 t5 : Value) : M :=
  lnl t0_1 fun t11 =>
  lt .i64 t5 t11 fun t12 =>
  cnd t12 (
    ia 1 t0_1 t5 fun t17 =>
    ld t17 fun t18 =>
    lns t18 fun t19 =>
    nei .i64 t19 (.int .i64 64) fun t20 =>
    cnd t20 (
      rt (.tuple #[(.string ⟨#[]⟩), (.int .i64 1)])
      ) (
      ia 1 t0_1 t5 fun t24 =>
      ld t24 fun t25 =>
      cat t4 t25 fun t26 =>
      ad .i64 t5 (.int .i64 1) fun t14 =>
      self2 t0_1 t26 t14
      )
    ) (
    j1 t4
    )
def f26_j1 (t4_1 : Value) : M :=
  rt (.tuple #[t4_1, (.int .i64 0)])
def f26 (t0 : Value) : M :=
  lnl t0 fun t7 =>
  nei .i64 t7 (.int .i64 4) fun t8 =>
  cnd t8 (
    rt (.tuple #[(.string ⟨#[]⟩), (.int .i64 1)])
    ) (
    jn (fun (j1 : Value → M) =>
      lo (fun _ _ _ => bot) (f26_b2 j1) (fun l => l t0 (.string ⟨#[]⟩) (.int .i64 0))
      ) (f26_j1)
    )
theorem s26 (t0 : Value) (w : World) (Q : Value → World → Prop) (h : f26 t0 w Q) : Calls Tryd.prog 26 #[t0] w (Rt Q) := by
  refine calls_of (l := [t0]) Tryd.func26 rfl Tryd.ntmps26 (Nat.le_of_ble_eq_true rfl) ?_
  unfold f26 at h
  refine wp_seq ?_
  refine L_region ?_
  refine L_as ?_
  refine L_as ?_
  refine L_nil ?_
  refine E_n ?_
  refine wp_seq ?_
  refine wp_seq ?_
  refine L_region ?_
  refine L_mv ?_
  refine L_u (P_lnl is39 h) ?_
  intro v w h
  refine L_u (P_nei h) ?_
  intro v w h
  refine L_nil ?_
  refine E_n ?_
  refine C_cnd h (fun h => ?_) (fun h => ?_)
  · refine wp_seq ?_
    refine L_region ?_
    refine L_as ?_
    refine L_as ?_
    refine L_nil ?_
    refine E_n ?_
    refine C_ret ?_
    show bodyPost Tryd.prog Tryd.f26 (Rt Q) .ret _ _
    exact post_tmps (ts := [2, 3]) (.inr rfl) rfl h
  · refine C_skip ?_
    refine E_n ?_
    refine wp_seq ?_
    refine L_region ?_
    refine L_as ?_
    refine L_nil ?_
    refine E_n ?_
    refine wp_seq ?_
    refine wp_seq ?_
    refine L_region ?_
    refine L_as ?_
    refine L_nil ?_
    refine E_n ?_
    refine C_join (fun (k : Value → M) (ρ : Nat → Value) => k (ρ 4)) h (fun j1 J1 h => ?_) (fun ρ w h => ?_)
    · refine C_blk ?_
      refine C_lo (fun (l : Value → Value → Value → M) (ρ : Nat → Value) => l (ρ 0) (ρ 4) (ρ 5)) h (fun ρ w h => h) (fun nx self2 L2 ρ w h => ?_)
      unfold f26_b2 at h
      refine wp_seq ?_
      refine wp_seq ?_
      refine L_region ?_
      refine L_mv ?_
      refine L_mv ?_
      refine L_u (P_lnl is39 h) ?_
      intro v w h
      refine L_u (P_lt h) ?_
      intro v w h
      refine L_nil ?_
      refine E_n ?_
      refine C_cnd h (fun h => ?_) (fun h => ?_)
      · refine C_skip ?_
        refine E_n ?_
        refine wp_seq ?_
        refine C_blk ?_
        refine wp_seq ?_
        refine wp_seq ?_
        refine L_region ?_
        refine L_mv ?_
        refine L_mv ?_
        refine L_u (P_ia se39 h) ?_
        intro v w h
        refine L_u (P_ld sc9 h) ?_
        intro v w h
        refine L_u (P_lns st9 h) ?_
        intro v w h
        refine L_u (P_nei h) ?_
        intro v w h
        refine L_nil ?_
        refine E_n ?_
        refine C_cnd h (fun h => ?_) (fun h => ?_)
        · refine wp_seq ?_
          refine L_region ?_
          refine L_as ?_
          refine L_as ?_
          refine L_nil ?_
          refine E_n ?_
          refine C_ret ?_
          show bodyPost Tryd.prog Tryd.f26 (Rt Q) .ret _ _
          exact post_tmps (ts := [2, 3]) (.inr rfl) rfl h
        · refine C_skip ?_
          refine E_n ?_
          refine L_region ?_
          refine L_mv ?_
          refine L_mv ?_
          refine L_mv ?_
          refine L_u (P_ia se39 h) ?_
          intro v w h
          refine L_u (P_ld sc9 h) ?_
          intro v w h
          refine L_u (P_cat h) ?_
          intro v w h
          refine L_as ?_
          refine L_nil ?_
          refine B_n ?_
          refine E_n ?_
          refine L_region ?_
          refine L_mv ?_
          refine L_u (P_ad h) ?_
          intro v w h
          refine L_as ?_
          refine L_nil ?_
          refine E_n ?_
          exact L2 _ _ h
      · refine C_exit ?_
        refine E_x ?_
        refine E_x ?_
        refine B_x ?_
        exact J1 _ _ h
    · unfold f26_j1 at h
      refine E_n ?_
      refine wp_seq ?_
      refine L_region ?_
      refine L_mv ?_
      refine L_as ?_
      refine L_as ?_
      refine L_nil ?_
      refine E_n ?_
      refine C_ret ?_
      show bodyPost Tryd.prog Tryd.f26 (Rt Q) .ret _ _
      exact post_tmps (ts := [2, 3]) (.inr rfl) rfl h

/- factotum/factotumlaw05.sameTexts -/
def f27_b2 (j1 : M) (self2 : Value → Value → Value → M) (t0_1 t1_1 t5 : Value) : M :=
  lnl t0_1 fun t13 =>
  lt .i64 t5 t13 fun t14 =>
  cnd t14 (
    dr <|
    idv t0_1 fun t17 =>
    idv t5 fun t18 =>
    ia 1 t17 t18 fun t19 =>
    ld t19 fun t20 =>
    idv t1_1 fun t21 =>
    idv t5 fun t22 =>
    ia 1 t21 t22 fun t23 =>
    ld t23 fun t24 =>
    nes t20 t24 fun t25 =>
    cnd t25 (
      rt (.bool false)
      ) (
      ad .i64 t5 (.int .i64 1) fun t16 =>
      self2 t0_1 t1_1 t16
      )
    ) (
    j1
    )
def f27_j1 : M :=
  rt (.bool true)
def f27 (t0 t1 : Value) : M :=
  lnl t0 fun t7 =>
  lnl t1 fun t9 =>
  nei .i64 t7 t9 fun t10 =>
  cnd t10 (
    rt (.bool false)
    ) (
    jn (fun (j1 : M) =>
      lo (fun _ _ _ => bot) (f27_b2 j1) (fun l => l t0 t1 (.int .i64 0))
      ) (f27_j1)
    )
theorem s27 (t0 t1 : Value) (w : World) (Q : Value → World → Prop) (h : f27 t0 t1 w Q) : Calls Tryd.prog 27 #[t0, t1] w (Rt Q) := by
  refine calls_of (l := [t0, t1]) Tryd.func27 rfl Tryd.ntmps27 (Nat.le_of_ble_eq_true rfl) ?_
  unfold f27 at h
  refine wp_seq ?_
  refine L_region ?_
  refine L_as ?_
  refine L_nil ?_
  refine E_n ?_
  refine wp_seq ?_
  refine wp_seq ?_
  refine L_region ?_
  refine L_mv ?_
  refine L_u (P_lnl is39 h) ?_
  intro v w h
  refine L_mv ?_
  refine L_u (P_lnl is39 h) ?_
  intro v w h
  refine L_u (P_nei h) ?_
  intro v w h
  refine L_nil ?_
  refine E_n ?_
  refine C_cnd h (fun h => ?_) (fun h => ?_)
  · refine wp_seq ?_
    refine L_region ?_
    refine L_as ?_
    refine L_nil ?_
    refine E_n ?_
    refine C_ret ?_
    show bodyPost Tryd.prog Tryd.f27 (Rt Q) .ret _ _
    exact post_tmps (ts := [4]) (.inr rfl) rfl h
  · refine C_skip ?_
    refine E_n ?_
    refine wp_seq ?_
    refine wp_seq ?_
    refine L_region ?_
    refine L_as ?_
    refine L_nil ?_
    refine E_n ?_
    refine C_join (fun (k : M) (ρ : Nat → Value) => k) h (fun j1 J1 h => ?_) (fun ρ w h => ?_)
    · refine C_blk ?_
      refine C_lo (fun (l : Value → Value → Value → M) (ρ : Nat → Value) => l (ρ 0) (ρ 1) (ρ 5)) h (fun ρ w h => h) (fun nx self2 L2 ρ w h => ?_)
      unfold f27_b2 at h
      refine wp_seq ?_
      refine wp_seq ?_
      refine L_region ?_
      refine L_mv ?_
      refine L_mv ?_
      refine L_u (P_lnl is39 h) ?_
      intro v w h
      refine L_u (P_lt h) ?_
      intro v w h
      refine L_nil ?_
      refine E_n ?_
      refine C_cnd h (fun h => ?_) (fun h => ?_)
      · refine C_skip ?_
        refine E_n ?_
        refine wp_seq ?_
        refine C_blk ?_
        refine wp_seq ?_
        refine D_region (by decide +kernel) 9 rfl ?_
        replace h := dr_e h
        refine G_p 0 rfl (by decide +kernel) (Y_mv h) ?_
        intro v h
        refine G_p 1 rfl (by decide +kernel) (Y_mv h) ?_
        intro v h
        refine G_p 2 rfl (by decide +kernel) (Y_ia se39 h) ?_
        intro v h
        refine G_r _ 3 rfl (by decide +kernel) (R_ld sc9 h) ?_
        intro v h
        refine G_p 4 rfl (by decide +kernel) (Y_mv h) ?_
        intro v h
        refine G_p 5 rfl (by decide +kernel) (Y_mv h) ?_
        intro v h
        refine G_p 6 rfl (by decide +kernel) (Y_ia se39 h) ?_
        intro v h
        refine G_r _ 7 rfl (by decide +kernel) (R_ld sc9 h) ?_
        intro v h
        refine G_p 8 rfl (by decide +kernel) (Y_nes h) ?_
        intro v h
        refine G_done (by decide +kernel) ?_
        refine E_n ?_
        refine C_cnd h (fun h => ?_) (fun h => ?_)
        · refine wp_seq ?_
          refine L_region ?_
          refine L_as ?_
          refine L_nil ?_
          refine E_n ?_
          refine C_ret ?_
          show bodyPost Tryd.prog Tryd.f27 (Rt Q) .ret _ _
          exact post_tmps (ts := [4]) (.inr rfl) rfl h
        · refine C_skip ?_
          refine B_n ?_
          refine E_n ?_
          refine L_region ?_
          refine L_mv ?_
          refine L_u (P_ad h) ?_
          intro v w h
          refine L_as ?_
          refine L_nil ?_
          refine E_n ?_
          exact L2 _ _ h
      · refine C_exit ?_
        refine E_x ?_
        refine E_x ?_
        refine B_x ?_
        exact J1 _ _ h
    · unfold f27_j1 at h
      refine E_n ?_
      refine wp_seq ?_
      refine L_region ?_
      refine L_as ?_
      refine L_nil ?_
      refine E_n ?_
      refine C_ret ?_
      show bodyPost Tryd.prog Tryd.f27 (Rt Q) .ret _ _
      exact post_tmps (ts := [4]) (.inr rfl) rfl h

/- factotum/factotumlaw05.UndoCut -/
def f7 (t0 t1 : Value) : M :=
  cl (f12) fun t15 =>
  nt t15 fun t16 =>
  cnd t16 (
    rt (.bool false)
    ) (
    cl (f23 t0) fun t19 =>
    ex 0 t19 fun t20 =>
    ex 1 t19 fun t21 =>
    cl (f24 t0) fun t24 =>
    ex 0 t24 fun t25 =>
    ex 1 t24 fun t26 =>
    cl (f25 t1) fun t29 =>
    ex 0 t29 fun t30 =>
    ex 1 t29 fun t31 =>
    cl (f26 t1) fun t34 =>
    ex 0 t34 fun t35 =>
    ex 1 t34 fun t36 =>
    cl (f25 t20) fun t39 =>
    ex 0 t39 fun t40 =>
    ex 1 t39 fun t41 =>
    eqi .i64 t21 t26 fun t44 =>
    gd t44 true (idv t20) fun t46 =>
    gd t44 true (idv t25) fun t47 =>
    gd t44 true (cl (f27 t46 t47)) fun t48 =>
    pk t44 t48 (.bool false) fun t49 =>
    gd t49 true (idv t30) fun t51 =>
    gd t49 true (idv t35) fun t52 =>
    gd t49 true (eqs t51 t52) fun t53 =>
    pk t49 t53 (.bool false) fun t54 =>
    gd t54 true (idv t31) fun t56 =>
    gd t54 true (idv t36) fun t57 =>
    gd t54 true (eqi .i64 t56 t57) fun t58 =>
    pk t54 t58 (.bool false) fun t59 =>
    gd t59 true (idv t21) fun t61 =>
    gd t59 true (nei .i64 t61 (.int .i64 0)) fun t62 =>
    gd t59 true (idv t62) fun t63 =>
    gd t63 false (idv t41) fun t64 =>
    gd t63 false (eqi .i64 t64 (.int .i64 0)) fun t65 =>
    gd t63 false (idv t65) fun t66 =>
    gd t66 true (idv t40) fun t67 =>
    gd t66 true (idv t0) fun t68 =>
    gd t66 true (eqs t67 t68) fun t69 =>
    gd t63 false (pk t66 t69 (.bool false)) fun t70 =>
    gd t59 true (pk t63 (.bool true) t70) fun t71 =>
    pk t59 t71 (.bool false) fun t72 =>
    rt t72
    )
theorem s7 (t0 t1 : Value) (w : World) (Q : Value → World → Prop) (h : f7 t0 t1 w Q) : Calls Tryd.prog 7 #[t0, t1] w (Rt Q) := by
  refine calls_of (l := [t0, t1]) Tryd.func7 rfl Tryd.ntmps7 (Nat.le_of_ble_eq_true rfl) ?_
  unfold f7 at h
  refine wp_seq ?_
  refine L_region ?_
  refine L_as ?_
  refine L_nil ?_
  refine E_n ?_
  refine wp_seq ?_
  refine wp_seq ?_
  refine L_region ?_
  refine L_u (N_cl Tryd.func12 rfl nn12 (fun w Q h => s12 w Q h) h) ?_
  intro v w h
  refine L_u (P_nt h) ?_
  intro v w h
  refine L_nil ?_
  refine E_n ?_
  refine C_cnd h (fun h => ?_) (fun h => ?_)
  · refine wp_seq ?_
    refine L_region ?_
    refine L_as ?_
    refine L_nil ?_
    refine E_n ?_
    refine C_ret ?_
    show bodyPost Tryd.prog Tryd.f7 (Rt Q) .ret _ _
    exact post_tmps (ts := [4]) (.inr rfl) rfl h
  · refine C_skip ?_
    refine E_n ?_
    refine wp_seq ?_
    refine L_region ?_
    refine L_mv ?_
    refine L_u (N_cl Tryd.func23 rfl nn23 (fun w Q h => s23 _ w Q h) h) ?_
    intro v w h
    refine L_mv ?_
    refine L_u (P_ex h) ?_
    intro v w h
    refine L_u (P_ex h) ?_
    intro v w h
    refine L_as ?_
    refine L_as ?_
    refine L_nil ?_
    refine E_n ?_
    refine wp_seq ?_
    refine L_region ?_
    refine L_mv ?_
    refine L_u (N_cl Tryd.func24 rfl nn24 (fun w Q h => s24 _ w Q h) h) ?_
    intro v w h
    refine L_mv ?_
    refine L_u (P_ex h) ?_
    intro v w h
    refine L_u (P_ex h) ?_
    intro v w h
    refine L_as ?_
    refine L_as ?_
    refine L_nil ?_
    refine E_n ?_
    refine wp_seq ?_
    refine L_region ?_
    refine L_mv ?_
    refine L_u (N_cl Tryd.func25 rfl nn25 (fun w Q h => s25 _ w Q h) h) ?_
    intro v w h
    refine L_mv ?_
    refine L_u (P_ex h) ?_
    intro v w h
    refine L_u (P_ex h) ?_
    intro v w h
    refine L_as ?_
    refine L_as ?_
    refine L_nil ?_
    refine E_n ?_
    refine wp_seq ?_
    refine L_region ?_
    refine L_mv ?_
    refine L_u (N_cl Tryd.func26 rfl nn26 (fun w Q h => s26 _ w Q h) h) ?_
    intro v w h
    refine L_mv ?_
    refine L_u (P_ex h) ?_
    intro v w h
    refine L_u (P_ex h) ?_
    intro v w h
    refine L_as ?_
    refine L_as ?_
    refine L_nil ?_
    refine E_n ?_
    refine wp_seq ?_
    refine L_region ?_
    refine L_mv ?_
    refine L_u (N_cl Tryd.func25 rfl nn25 (fun w Q h => s25 _ w Q h) h) ?_
    intro v w h
    refine L_mv ?_
    refine L_u (P_ex h) ?_
    intro v w h
    refine L_u (P_ex h) ?_
    intro v w h
    refine L_as ?_
    refine L_as ?_
    refine L_nil ?_
    refine E_n ?_
    refine wp_seq ?_
    refine L_region ?_
    refine L_mv ?_
    refine L_mv ?_
    refine L_u (P_eqi h) ?_
    intro v w h
    refine L_mv ?_
    refine L_g (t := 45) h rfl rfl (fun c h => P_mv h c) ?_
    intro v w h
    refine L_g (t := 45) h rfl rfl (fun c h => P_mv h c) ?_
    intro v w h
    refine L_g (t := 45) h rfl rfl (fun c h => N_cl Tryd.func27 rfl nn27 (fun w Q h => s27 _ _ w Q h) h c) ?_
    intro v w h
    refine L_u (P_pk h) ?_
    intro v w h
    refine L_mv ?_
    refine L_g (t := 50) h rfl rfl (fun c h => P_mv h c) ?_
    intro v w h
    refine L_g (t := 50) h rfl rfl (fun c h => P_mv h c) ?_
    intro v w h
    refine L_g (t := 50) h rfl rfl (fun c h => P_eqs h c) ?_
    intro v w h
    refine L_u (P_pk h) ?_
    intro v w h
    refine L_mv ?_
    refine L_g (t := 55) h rfl rfl (fun c h => P_mv h c) ?_
    intro v w h
    refine L_g (t := 55) h rfl rfl (fun c h => P_mv h c) ?_
    intro v w h
    refine L_g (t := 55) h rfl rfl (fun c h => P_eqi h c) ?_
    intro v w h
    refine L_u (P_pk h) ?_
    intro v w h
    refine L_mv ?_
    refine L_g (t := 60) h rfl rfl (fun c h => P_mv h c) ?_
    intro v w h
    refine L_g (t := 60) h rfl rfl (fun c h => P_nei h c) ?_
    intro v w h
    refine L_g (t := 60) h rfl rfl (fun c h => P_mv h c) ?_
    intro v w h
    refine L_g (t := 63) h rfl rfl (fun c h => P_mv h c) ?_
    intro v w h
    refine L_g (t := 63) h rfl rfl (fun c h => P_eqi h c) ?_
    intro v w h
    refine L_g (t := 63) h rfl rfl (fun c h => P_mv h c) ?_
    intro v w h
    refine L_g (t := 66) h rfl rfl (fun c h => P_mv h c) ?_
    intro v w h
    refine L_g (t := 66) h rfl rfl (fun c h => P_mv h c) ?_
    intro v w h
    refine L_g (t := 66) h rfl rfl (fun c h => P_eqs h c) ?_
    intro v w h
    refine L_g (t := 63) h rfl rfl (fun c h => P_pk h c) ?_
    intro v w h
    refine L_g (t := 60) h rfl rfl (fun c h => P_pk h c) ?_
    intro v w h
    refine L_u (P_pk h) ?_
    intro v w h
    refine L_as ?_
    refine L_nil ?_
    refine E_n ?_
    refine C_ret ?_
    show bodyPost Tryd.prog Tryd.f7 (Rt Q) .ret _ _
    exact post_tmps (ts := [4]) (.inr rfl) rfl h

/- (*factotum/cache.ring[factotum/cache.page]).begin -/
def f64 (t0 : Value) : M :=
  dr <|
  idv t0 fun t2 =>
  idv t0 fun t3 =>
  idv t0 fun t4 =>
  nc t4 fun t5 =>
  fa 0 t5 fun t6 =>
  idv t0 fun t7 =>
  nc t7 fun t8 =>
  fa 0 t8 fun t9 =>
  nc t2 fun t10 =>
  fa 0 t10 fun t11 =>
  fa 0 t11 fun t12 =>
  st t12 t6 <|
  nc t3 fun t13 =>
  fa 0 t13 fun t14 =>
  fa 1 t14 fun t15 =>
  st t15 t9 <|
  rt (.tuple #[])
theorem s64 (t0 : Value) (w : World) (Q : Value → World → Prop) (h : f64 t0 w Q) : Calls Tryd.prog 64 #[t0] w (Rt Q) := by
  refine calls_of (l := [t0]) Tryd.func64 rfl Tryd.ntmps64 (Nat.le_of_ble_eq_true rfl) ?_
  unfold f64 at h
  refine D_region (by decide +kernel) 16 rfl ?_
  replace h := dr_e h
  refine G_p 0 rfl (by decide +kernel) (Y_mv h) ?_
  intro v h
  refine G_p 1 rfl (by decide +kernel) (Y_mv h) ?_
  intro v h
  refine G_p 2 rfl (by decide +kernel) (Y_mv h) ?_
  intro v h
  refine G_p 3 rfl (by decide +kernel) (Y_nc h) ?_
  intro v h
  refine G_p 4 rfl (by decide +kernel) (Y_fa fo97_0 h) ?_
  intro v h
  refine G_p 5 rfl (by decide +kernel) (Y_mv h) ?_
  intro v h
  refine G_p 6 rfl (by decide +kernel) (Y_nc h) ?_
  intro v h
  refine G_p 7 rfl (by decide +kernel) (Y_fa fo97_0 h) ?_
  intro v h
  refine G_p 8 rfl (by decide +kernel) (Y_nc h) ?_
  intro v h
  refine G_p 9 rfl (by decide +kernel) (Y_fa fo97_0 h) ?_
  intro v h
  refine G_p 10 rfl (by decide +kernel) (Y_fa fo95_0 h) ?_
  intro v h
  refine G_e 11 rfl (by decide +kernel) (P_st on91 h ?_)
  intro w h
  refine ⟨keepF_nil, ?_⟩
  refine G_p 12 rfl (by decide +kernel) (Y_nc h) ?_
  intro v h
  refine G_p 13 rfl (by decide +kernel) (Y_fa fo97_0 h) ?_
  intro v h
  refine G_p 14 rfl (by decide +kernel) (Y_fa fo95_1 h) ?_
  intro v h
  refine G_e 15 rfl (by decide +kernel) (P_st on91 h ?_)
  intro w h
  refine ⟨keepF_nil, ?_⟩
  refine G_done (by decide +kernel) ?_
  show bodyPost Tryd.prog Tryd.f64 (Rt Q) .normal _ _
  exact post_tmps (ts := []) (.inl rfl) rfl h

/- factotum/cache.New -/
def f30 (t0 t1 : Value) : M :=
  smr Tryd.prog (do eqGuard .eql 49 (.tmp 6) (.const (.pointer none)) t0 (.pointer none); binOp .eql 49 t0 (.pointer none)) fun t7 =>
  cnd t7 (
    rt (.pointer none)
    ) (
    mxm t1 (.int .i64 0) fun t10 =>
    mnm t10 (.int .i64 64) fun t11 =>
    mm fun t12 =>
    smr Tryd.prog (Instr.build 99 #[(0, t0), (1, t11), (3, t12)]) fun t13 =>
    bx 99 t13 fun t14 =>
    nc t14 fun t16 =>
    fa 2 t16 fun t17 =>
    cl (f64 t17) fun t18 =>
    rt t14
    )
theorem s30 (t0 t1 : Value) (w : World) (Q : Value → World → Prop) (h : f30 t0 t1 w Q) : Calls Tryd.prog 30 #[t0, t1] w (Rt Q) := by
  refine calls_of (l := [t0, t1]) Tryd.func30 rfl Tryd.ntmps30 (Nat.le_of_ble_eq_true rfl) ?_
  unfold f30 at h
  refine wp_seq ?_
  refine L_region ?_
  refine L_as ?_
  refine L_nil ?_
  refine E_n ?_
  refine wp_seq ?_
  refine wp_seq ?_
  refine L_region ?_
  refine L_mv ?_
  refine L_u (P_smr rfl h) ?_
  intro v w h
  refine L_nil ?_
  refine E_n ?_
  refine C_cnd h (fun h => ?_) (fun h => ?_)
  · refine wp_seq ?_
    refine L_region ?_
    refine L_as ?_
    refine L_nil ?_
    refine E_n ?_
    refine C_ret ?_
    show bodyPost Tryd.prog Tryd.f30 (Rt Q) .ret _ _
    exact post_tmps (ts := [4]) (.inr rfl) rfl h
  · refine C_skip ?_
    refine E_n ?_
    refine wp_seq ?_
    refine L_region ?_
    refine L_mv ?_
    refine L_mv ?_
    refine L_u (P_mxm (t := 0) h) ?_
    intro v w h
    refine L_u (P_mnm (t := 0) h) ?_
    intro v w h
    refine L_u (P_mm h) ?_
    intro v w h
    refine L_u (N_bld h) ?_
    intro v w h
    refine L_u (P_bx h) ?_
    intro v w h
    refine L_as ?_
    refine L_nil ?_
    refine E_n ?_
    refine wp_seq ?_
    refine L_region ?_
    refine L_mv ?_
    refine L_u (P_nc h) ?_
    intro v w h
    refine L_u (P_fa fo99_2 h) ?_
    intro v w h
    refine L_u (N_cl Tryd.func64 rfl nn64 (fun w Q h => s64 _ w Q h) h) ?_
    intro v w h
    refine L_nil ?_
    refine E_n ?_
    refine wp_seq ?_
    refine L_region ?_
    refine L_mv ?_
    refine L_as ?_
    refine L_nil ?_
    refine E_n ?_
    refine C_ret ?_
    show bodyPost Tryd.prog Tryd.f30 (Rt Q) .ret _ _
    exact post_tmps (ts := [4]) (.inr rfl) rfl h

/- factotum/device.New -/
def f37 (t0 : Value) : M :=
  mxm t0 (.int .i64 0) fun t4 =>
  mnm t4 (.int .i64 4096) fun t5 =>
  sm Tryd.prog (Instr.makeSlice 105 t5 t5) fun t6 =>
  mm fun t7 =>
  smr Tryd.prog (Instr.build 108 #[(0, t6), (1, t7), (3, (.int .i64 4611686018427387904))]) fun t8 =>
  bx 108 t8 fun t9 =>
  rt t9
theorem s37 (t0 : Value) (w : World) (Q : Value → World → Prop) (h : f37 t0 w Q) : Calls Tryd.prog 37 #[t0] w (Rt Q) := by
  refine calls_of (l := [t0]) Tryd.func37 rfl Tryd.ntmps37 (Nat.le_of_ble_eq_true rfl) ?_
  unfold f37 at h
  refine wp_seq ?_
  refine L_region ?_
  refine L_as ?_
  refine L_nil ?_
  refine E_n ?_
  refine wp_seq ?_
  refine L_region ?_
  refine L_mv ?_
  refine L_u (P_mxm (t := 0) h) ?_
  intro v w h
  refine L_u (P_mnm (t := 0) h) ?_
  intro v w h
  refine L_u (P_sm rfl h) ?_
  intro v w h
  refine L_u (P_mm h) ?_
  intro v w h
  refine L_u (N_bld h) ?_
  intro v w h
  refine L_u (P_bx h) ?_
  intro v w h
  refine L_as ?_
  refine L_nil ?_
  refine E_n ?_
  refine C_ret ?_
  show bodyPost Tryd.prog Tryd.f37 (Rt Q) .ret _ _
  exact post_tmps (ts := [2]) (.inr rfl) rfl h

/- (*factotum/device.Device).Size -/
def f39 (t0 : Value) : M :=
  smr Tryd.prog (do eqGuard .eql 58 (.tmp 3) (.const (.pointer none)) t0 (.pointer none); binOp .eql 58 t0 (.pointer none)) fun t4 =>
  cnd t4 (
    rt (.int .i64 0)
    ) (
    nc t0 fun t6 =>
    fa 0 t6 fun t7 =>
    ld t7 fun t8 =>
    lnl t8 fun t9 =>
    rt t9
    )
theorem s39 (t0 : Value) (w : World) (Q : Value → World → Prop) (h : f39 t0 w Q) : Calls Tryd.prog 39 #[t0] w (Rt Q) := by
  refine calls_of (l := [t0]) Tryd.func39 rfl Tryd.ntmps39 (Nat.le_of_ble_eq_true rfl) ?_
  unfold f39 at h
  refine wp_seq ?_
  refine L_region ?_
  refine L_as ?_
  refine L_nil ?_
  refine E_n ?_
  refine wp_seq ?_
  refine wp_seq ?_
  refine L_region ?_
  refine L_mv ?_
  refine L_u (P_smr rfl h) ?_
  intro v w h
  refine L_nil ?_
  refine E_n ?_
  refine C_cnd h (fun h => ?_) (fun h => ?_)
  · refine wp_seq ?_
    refine L_region ?_
    refine L_as ?_
    refine L_nil ?_
    refine E_n ?_
    refine C_ret ?_
    show bodyPost Tryd.prog Tryd.f39 (Rt Q) .ret _ _
    exact post_tmps (ts := [2]) (.inr rfl) rfl h
  · refine C_skip ?_
    refine E_n ?_
    refine wp_seq ?_
    refine L_region ?_
    refine L_mv ?_
    refine L_u (P_nc h) ?_
    intro v w h
    refine L_u (P_fa fo108_0 h) ?_
    intro v w h
    refine L_u (P_ld sc105 h) ?_
    intro v w h
    refine L_u (P_lnl is105 h) ?_
    intro v w h
    refine L_as ?_
    refine L_nil ?_
    refine E_n ?_
    refine C_ret ?_
    show bodyPost Tryd.prog Tryd.f39 (Rt Q) .ret _ _
    exact post_tmps (ts := [2]) (.inr rfl) rfl h

/- (*factotum/device.Device).Read -/
def f70_j1 (t5_1 : Value) : M :=
  sla 64 1 t5_1 none none fun t40 =>
  smr Tryd.prog (convert 66 9 t40) fun t41 =>
  rt t41
def f70 (t0 t1 : Value) : M :=
  smr Tryd.prog (do eqGuard .eql 58 (.tmp 7) (.const (.pointer none)) t0 (.pointer none); binOp .eql 58 t0 (.pointer none)) fun t8 =>
  gd t8 false (idv t1) fun t10 =>
  gd t8 false (lt .i64 t10 (.int .i64 0)) fun t11 =>
  pk t8 (.bool true) t11 fun t12 =>
  gd t12 false (idv t1) fun t14 =>
  gd t12 false (idv t0) fun t15 =>
  gd t12 false (nc t15) fun t16 =>
  gd t12 false (fa 0 t16) fun t17 =>
  gd t12 false (ld t17) fun t18 =>
  gd t12 false (lnl t18) fun t19 =>
  gd t12 false (ge .i64 t14 t19) fun t20 =>
  pk t12 (.bool true) t20 fun t21 =>
  cnd t21 (
    rt (.string ⟨#[]⟩)
    ) (
    nc t0 fun t24 =>
    fa 1 t24 fun t25 =>
    ld t25 fun t26 =>
    smr Tryd.prog (Instr.lookup 106 t26 t1 true) fun t28 =>
    ex 0 t28 fun t29 =>
    ex 1 t28 fun t30 =>
    al 113 (Array.replicate 64 (.int .u8 0)) fun t5 =>
    stn 64 t5 t29 <|
    nt t30 fun t32 =>
    jn (fun (j1 : Value → M) =>
      cnd t32 (
        nc t0 fun t34 =>
        fa 0 t34 fun t35 =>
        ld t35 fun t36 =>
        ia 64 t36 t1 fun t38 =>
        ldn 64 t38 fun t39 =>
        stn 64 t5 t39 <|
        j1 t5
        ) (
        j1 t5
        )
      ) (f70_j1)
    )
theorem s70 (t0 t1 : Value) (w : World) (Q : Value → World → Prop) (h : f70 t0 t1 w Q) : Calls Tryd.prog 70 #[t0, t1] w (Rt Q) := by
  refine calls_of (l := [t0, t1]) Tryd.func70 rfl Tryd.ntmps70 (Nat.le_of_ble_eq_true rfl) ?_
  unfold f70 at h
  refine wp_seq ?_
  refine L_region ?_
  refine L_as ?_
  refine L_nil ?_
  refine E_n ?_
  refine wp_seq ?_
  refine wp_seq ?_
  refine L_region ?_
  refine L_mv ?_
  refine L_u (P_smr rfl h) ?_
  intro v w h
  refine L_mv ?_
  refine L_g (t := 9) h rfl rfl (fun c h => P_mv h c) ?_
  intro v w h
  refine L_g (t := 9) h rfl rfl (fun c h => P_lt h c) ?_
  intro v w h
  refine L_u (P_pk h) ?_
  intro v w h
  refine L_mv ?_
  refine L_g (t := 13) h rfl rfl (fun c h => P_mv h c) ?_
  intro v w h
  refine L_g (t := 13) h rfl rfl (fun c h => P_mv h c) ?_
  intro v w h
  refine L_g (t := 13) h rfl rfl (fun c h => P_nc h c) ?_
  intro v w h
  refine L_g (t := 13) h rfl rfl (fun c h => P_fa fo108_0 h c) ?_
  intro v w h
  refine L_g (t := 13) h rfl rfl (fun c h => P_ld sc105 h c) ?_
  intro v w h
  refine L_g (t := 13) h rfl rfl (fun c h => P_lnl is105 h c) ?_
  intro v w h
  refine L_g (t := 13) h rfl rfl (fun c h => P_ge h c) ?_
  intro v w h
  refine L_u (P_pk h) ?_
  intro v w h
  refine L_nil ?_
  refine E_n ?_
  refine C_cnd h (fun h => ?_) (fun h => ?_)
  · refine wp_seq ?_
    refine L_region ?_
    refine L_as ?_
    refine L_nil ?_
    refine E_n ?_
    refine C_ret ?_
    show bodyPost Tryd.prog Tryd.f70 (Rt Q) .ret _ _
    exact post_tmps (ts := [4]) (.inr rfl) rfl h
  · refine C_skip ?_
    refine E_n ?_
    refine wp_seq ?_
    refine L_region ?_
    refine L_mv ?_
    refine L_u (P_nc h) ?_
    intro v w h
    refine L_u (P_fa fo108_1 h) ?_
    intro v w h
    refine L_u (P_ld sc106 h) ?_
    intro v w h
    refine L_mv ?_
    refine L_u (P_smr rfl h) ?_
    intro v w h
    refine L_mv ?_
    refine L_u (P_ex h) ?_
    intro v w h
    refine L_u (P_ex h) ?_
    intro v w h
    refine L_u (P_al ze113 rfl h) ?_
    intro v w h
    refine L_u (P_stn ag113 h) ?_
    intro w h
    refine L_as ?_
    refine L_nil ?_
    refine E_n ?_
    refine wp_seq ?_
    refine wp_seq ?_
    refine L_region ?_
    refine L_mv ?_
    refine L_u (P_nt h) ?_
    intro v w h
    refine L_nil ?_
    refine E_n ?_
    refine C_join (fun (k : Value → M) (ρ : Nat → Value) => k (ρ 5)) h (fun j1 J1 h => ?_) (fun ρ w h => ?_)
    · refine C_cnd h (fun h => ?_) (fun h => ?_)
      · refine L_region ?_
        refine L_mv ?_
        refine L_u (P_nc h) ?_
        intro v w h
        refine L_u (P_fa fo108_0 h) ?_
        intro v w h
        refine L_u (P_ld sc105 h) ?_
        intro v w h
        refine L_mv ?_
        refine L_u (P_ia se105 h) ?_
        intro v w h
        refine L_u (P_ldn ag113 h) ?_
        intro v w h
        refine L_u (P_stn ag113 h) ?_
        intro w h
        refine L_nil ?_
        exact J1 _ _ h
      · refine C_skip ?_
        exact J1 _ _ h
    · unfold f70_j1 at h
      refine E_n ?_
      refine wp_seq ?_
      refine L_region ?_
      refine L_u (P_sla ae113 h) ?_
      intro v w h
      refine L_u (P_smr rfl h) ?_
      intro v w h
      refine L_as ?_
      refine L_nil ?_
      refine E_n ?_
      refine C_ret ?_
      show bodyPost Tryd.prog Tryd.f70 (Rt Q) .ret _ _
      exact post_tmps (ts := [4]) (.inr rfl) rfl h

/- (*factotum/pager.Pager).join -/
def f68_b2 (j1 : Value → M) (self2 : Value → Value → Value → Value → M) (t0_1 t1_1 t5 t9 : Value) : M :=
  lt .i64 t9 (.int .i64 4) fun t10 =>
  cnd t10 (
    dr <|
    idv t5 fun t12 =>
    idv t0_1 fun t13 =>
    nc t13 fun t14 =>
    fa 0 t14 fun t15 =>
    ld t15 fun t16 =>
    idv t1_1 fun t17 =>
    idv t9 fun t18 =>
    cf Tryd.prog t17 #[t18] fun t19 =>
    kp (Kld t15 t16) <|
    cl (f70 t16 t19) fun t20 =>
    sm Tryd.prog (Instr.buildSlice 39 1 #[(0, t20)]) fun t21 =>
    sm Tryd.prog (Builtin.append_ #[39, 39] 39 #[t12, t21]) fun t22 =>
    idv t22 fun t5_1 =>
    ad .i64 t9 (.int .i64 1) fun t23 =>
    self2 t0_1 t1_1 t5_1 t23
    ) (
    j1 t5
    )
def f68_j1 (t5_2 : Value) : M :=
  cl (f25 t5_2) fun t26 =>
  ex 0 t26 fun t27 =>
  ex 1 t26 fun t28 =>
  rt t27
def f68 (t0 t1 : Value) : M :=
  jn (fun (j1 : Value → M) =>
    lo (fun _ _ _ _ => bot) (f68_b2 j1) (fun l => l t0 t1 (.slice none 0 0) (.int .i64 0))
    ) (f68_j1)
theorem s68 (t0 t1 : Value) (w : World) (Q : Value → World → Prop) (h : f68 t0 t1 w Q) : Calls Tryd.prog 68 #[t0, t1] w (Rt Q) := by
  refine calls_of (l := [t0, t1]) Tryd.func68 rfl Tryd.ntmps68 (Nat.le_of_ble_eq_true rfl) ?_
  unfold f68 at h
  refine wp_seq ?_
  refine L_region ?_
  refine L_as ?_
  refine L_nil ?_
  refine E_n ?_
  refine wp_seq ?_
  refine L_region ?_
  refine L_as ?_
  refine L_nil ?_
  refine E_n ?_
  refine wp_seq ?_
  refine wp_seq ?_
  refine L_region ?_
  refine L_mv ?_
  refine L_nil ?_
  refine E_n ?_
  refine C_join (fun (k : Value → M) (ρ : Nat → Value) => k (ρ 5)) h (fun j1 J1 h => ?_) (fun ρ w h => ?_)
  · refine C_blk ?_
    refine C_lo (fun (l : Value → Value → Value → Value → M) (ρ : Nat → Value) => l (ρ 0) (ρ 1) (ρ 5) (ρ 9)) h (fun ρ w h => h) (fun nx self2 L2 ρ w h => ?_)
    unfold f68_b2 at h
    refine wp_seq ?_
    refine L_region ?_
    refine L_u (P_lt h) ?_
    intro v w h
    refine L_nil ?_
    refine E_n ?_
    refine wp_seq ?_
    refine C_cnd h (fun h => ?_) (fun h => ?_)
    · refine C_skip ?_
      refine E_n ?_
      refine wp_seq ?_
      refine C_blk ?_
      refine wp_seq ?_
      refine L_region ?_
      refine L_mv ?_
      refine L_as ?_
      refine L_nil ?_
      refine E_n ?_
      refine D_region (by decide +kernel) 12 rfl ?_
      replace h := dr_e h
      refine G_p 0 rfl (by decide +kernel) (Y_mv h) ?_
      intro v h
      refine G_p 1 rfl (by decide +kernel) (Y_mv h) ?_
      intro v h
      refine G_p 2 rfl (by decide +kernel) (Y_nc h) ?_
      intro v h
      refine G_p 3 rfl (by decide +kernel) (Y_fa fo110_0 h) ?_
      intro v h
      refine G_r _ 4 rfl (by decide +kernel) (R_ld sc58 h) ?_
      intro v h
      refine G_p 5 rfl (by decide +kernel) (Y_mv h) ?_
      intro v h
      refine G_p 6 rfl (by decide +kernel) (Y_mv h) ?_
      intro v h
      refine G_e 7 rfl (by decide +kernel) (N_cf h ?_)
      intro v w h
      refine ⟨keepF_cons (kp_1 h) keepF_nil, ?_⟩
      replace h := (kp_2 h)
      refine G_e 8 rfl (by decide +kernel) (N_cl Tryd.func70 rfl nn70 (fun w Q h => s70 _ _ w Q h) h ?_)
      intro v w h
      refine ⟨keepF_dep [4] (by decide +kernel) rfl keepF_nil, ?_⟩
      refine G_e 9 rfl (by decide +kernel) (N_bsl h ?_)
      intro v w h
      refine ⟨keepF_dep [8, 4] (by decide +kernel) rfl keepF_nil, ?_⟩
      refine G_e 10 rfl (by decide +kernel) (N_bi rfl h ?_)
      intro v w h
      refine ⟨keepF_dep [8, 4] (by decide +kernel) rfl keepF_nil, ?_⟩
      refine G_p 11 rfl (by decide +kernel) (Y_as h) ?_
      intro v h
      refine G_done (by decide +kernel) ?_
      refine B_n ?_
      refine E_n ?_
      refine L_region ?_
      refine L_u (P_ad h) ?_
      intro v w h
      refine L_mv ?_
      refine L_nil ?_
      refine E_n ?_
      exact L2 _ _ h
    · refine C_exit ?_
      refine E_x ?_
      refine E_x ?_
      refine B_x ?_
      exact J1 _ _ h
  · unfold f68_j1 at h
    refine E_n ?_
    refine wp_seq ?_
    refine L_region ?_
    refine L_mv ?_
    refine L_u (N_cl Tryd.func25 rfl nn25 (fun w Q h => s25 _ w Q h) h) ?_
    intro v w h
    refine L_mv ?_
    refine L_u (P_ex h) ?_
    intro v w h
    refine L_u (P_ex h) ?_
    intro v w h
    refine L_as ?_
    refine L_as ?_
    refine L_nil ?_
    refine E_n ?_
    refine wp_seq ?_
    refine L_region ?_
    refine L_mv ?_
    refine L_as ?_
    refine L_nil ?_
    refine E_n ?_
    refine C_ret ?_
    show bodyPost Tryd.prog Tryd.f68 (Rt Q) .ret _ _
    exact post_tmps (ts := [4]) (.inr rfl) rfl h

/- factotum/pager.Open$1 -/
def f69 (t0 t1 : Value) : M :=
  ld t1 fun t4 =>
  cl (f21 t4 t0) fun t6 =>
  rt t6
theorem s69 (t0 t1 : Value) (w : World) (Q : Value → World → Prop) (h : f69 t0 t1 w Q) : Calls Tryd.prog 69 #[t0, t1] w (Rt Q) := by
  refine calls_of (l := [t0, t1]) Tryd.func69 rfl Tryd.ntmps69 (Nat.le_of_ble_eq_true rfl) ?_
  unfold f69 at h
  refine wp_seq ?_
  refine L_region ?_
  refine L_as ?_
  refine L_nil ?_
  refine E_n ?_
  refine wp_seq ?_
  refine L_region ?_
  refine L_u (P_ld sc3 h) ?_
  intro v w h
  refine L_mv ?_
  refine L_u (N_cl Tryd.func21 rfl nn21 (fun w Q h => s21 _ _ w Q h) h) ?_
  intro v w h
  refine L_as ?_
  refine L_nil ?_
  refine E_n ?_
  refine C_ret ?_
  show bodyPost Tryd.prog Tryd.f69 (Rt Q) .ret _ _
  exact post_tmps (ts := [3]) (.inr rfl) rfl h

/- (*factotum/device.Device).call -/
def f72 (t0 : Value) : M :=
  smr Tryd.prog (do eqGuard .eql 58 (.tmp 3) (.const (.pointer none)) t0 (.pointer none); binOp .eql 58 t0 (.pointer none)) fun t4 =>
  cnd t4 (
    rt (.int .i64 1)
    ) (
    nc t0 fun t6 =>
    fa 2 t6 fun t7 =>
    ld t7 fun t8 =>
    ad .i64 t8 (.int .i64 1) fun t9 =>
    nc t0 fun t10 =>
    fa 2 t10 fun t11 =>
    st t11 t9 <|
    dr <|
    idv t0 fun t12 =>
    nc t12 fun t13 =>
    fa 2 t13 fun t14 =>
    ld t14 fun t15 =>
    idv t0 fun t16 =>
    nc t16 fun t17 =>
    fa 3 t17 fun t18 =>
    ld t18 fun t19 =>
    gt .i64 t15 t19 fun t20 =>
    cnd t20 (
      rt (.int .i64 9)
      ) (
      rt (.int .i64 0)
      )
    )
theorem s72 (t0 : Value) (w : World) (Q : Value → World → Prop) (h : f72 t0 w Q) : Calls Tryd.prog 72 #[t0] w (Rt Q) := by
  refine calls_of (l := [t0]) Tryd.func72 rfl Tryd.ntmps72 (Nat.le_of_ble_eq_true rfl) ?_
  unfold f72 at h
  refine wp_seq ?_
  refine L_region ?_
  refine L_as ?_
  refine L_nil ?_
  refine E_n ?_
  refine wp_seq ?_
  refine wp_seq ?_
  refine L_region ?_
  refine L_mv ?_
  refine L_u (P_smr rfl h) ?_
  intro v w h
  refine L_nil ?_
  refine E_n ?_
  refine C_cnd h (fun h => ?_) (fun h => ?_)
  · refine wp_seq ?_
    refine L_region ?_
    refine L_as ?_
    refine L_nil ?_
    refine E_n ?_
    refine C_ret ?_
    show bodyPost Tryd.prog Tryd.f72 (Rt Q) .ret _ _
    exact post_tmps (ts := [2]) (.inr rfl) rfl h
  · refine C_skip ?_
    refine E_n ?_
    refine wp_seq ?_
    refine L_region ?_
    refine L_mv ?_
    refine L_u (P_nc h) ?_
    intro v w h
    refine L_u (P_fa fo108_2 h) ?_
    intro v w h
    refine L_u (P_ld sc3 h) ?_
    intro v w h
    refine L_u (P_ad h) ?_
    intro v w h
    refine L_u (P_nc h) ?_
    intro v w h
    refine L_u (P_fa fo108_2 h) ?_
    intro v w h
    refine L_u (P_st on3 h) ?_
    intro w h
    refine L_nil ?_
    refine E_n ?_
    refine wp_seq ?_
    refine wp_seq ?_
    refine D_region (by decide +kernel) 9 rfl ?_
    replace h := dr_e h
    refine G_p 0 rfl (by decide +kernel) (Y_mv h) ?_
    intro v h
    refine G_p 1 rfl (by decide +kernel) (Y_nc h) ?_
    intro v h
    refine G_p 2 rfl (by decide +kernel) (Y_fa fo108_2 h) ?_
    intro v h
    refine G_r _ 3 rfl (by decide +kernel) (R_ld sc3 h) ?_
    intro v h
    refine G_p 4 rfl (by decide +kernel) (Y_mv h) ?_
    intro v h
    refine G_p 5 rfl (by decide +kernel) (Y_nc h) ?_
    intro v h
    refine G_p 6 rfl (by decide +kernel) (Y_fa fo108_3 h) ?_
    intro v h
    refine G_r _ 7 rfl (by decide +kernel) (R_ld sc3 h) ?_
    intro v h
    refine G_p 8 rfl (by decide +kernel) (Y_gt h) ?_
    intro v h
    refine G_done (by decide +kernel) ?_
    refine E_n ?_
    refine C_cnd h (fun h => ?_) (fun h => ?_)
    · refine wp_seq ?_
      refine L_region ?_
      refine L_as ?_
      refine L_nil ?_
      refine E_n ?_
      refine C_ret ?_
      show bodyPost Tryd.prog Tryd.f72 (Rt Q) .ret _ _
      exact post_tmps (ts := [2]) (.inr rfl) rfl h
    · refine C_skip ?_
      refine E_n ?_
      refine wp_seq ?_
      refine L_region ?_
      refine L_as ?_
      refine L_nil ?_
      refine E_n ?_
      refine C_ret ?_
      show bodyPost Tryd.prog Tryd.f72 (Rt Q) .ret _ _
      exact post_tmps (ts := [2]) (.inr rfl) rfl h

/- (*factotum/device.Device).Sync -/
def f41_b2 (j1 : Value → M) (self2 : Value → Value → M) (t0_1 t15_1 : Value) : M :=
  sm Tryd.prog (Instr.next t15_1 false 0) fun t16 =>
  ex 0 t16 fun t17 =>
  cnd t17 (
    smr Tryd.prog (Instr.entry t15_1) fun t18 =>
    ex 0 t18 fun t19 =>
    ex 1 t18 fun t20 =>
    al 113 (Array.replicate 64 (.int .u8 0)) fun t5 =>
    stn 64 t5 t20 <|
    dr <|
    idv t0_1 fun t21 =>
    nc t21 fun t22 =>
    fa 0 t22 fun t23 =>
    ld t23 fun t24 =>
    idv t19 fun t25 =>
    ldn 64 t5 fun t26 =>
    ia 64 t24 t25 fun t27 =>
    stn 64 t27 t26 <|
    self2 t0_1 t15_1
    ) (
    j1 t0_1
    )
def f41_j1 (t0_2 : Value) : M :=
  nc t0_2 fun t29 =>
  fa 1 t29 fun t30 =>
  ld t30 fun t31 =>
  sm Tryd.prog (Builtin.clear_ #[106] 0 #[t31]) fun _ =>
  rt (.int .i64 0)
def f41 (t0 : Value) : M :=
  cl (f72 t0) fun t7 =>
  nei .i64 t7 (.int .i64 0) fun t9 =>
  cnd t9 (
    rt t7
    ) (
    nc t0 fun t12 =>
    fa 1 t12 fun t13 =>
    ld t13 fun t14 =>
    sm Tryd.prog (Instr.range 106 t14) fun t15 =>
    jn (fun (j1 : Value → M) =>
      lo (fun _ _ => bot) (f41_b2 j1) (fun l => l t0 t15)
      ) (f41_j1)
    )
theorem s41 (t0 : Value) (w : World) (Q : Value → World → Prop) (h : f41 t0 w Q) : Calls Tryd.prog 41 #[t0] w (Rt Q) := by
  refine calls_of (l := [t0]) Tryd.func41 rfl Tryd.ntmps41 (Nat.le_of_ble_eq_true rfl) ?_
  unfold f41 at h
  refine wp_seq ?_
  refine L_region ?_
  refine L_as ?_
  refine L_nil ?_
  refine E_n ?_
  refine wp_seq ?_
  refine wp_seq ?_
  refine L_region ?_
  refine L_mv ?_
  refine L_u (N_cl Tryd.func72 rfl nn72 (fun w Q h => s72 _ w Q h) h) ?_
  intro v w h
  refine L_as ?_
  refine L_nil ?_
  refine E_n ?_
  refine wp_seq ?_
  refine L_region ?_
  refine L_mv ?_
  refine L_u (P_nei h) ?_
  intro v w h
  refine L_nil ?_
  refine E_n ?_
  refine C_cnd h (fun h => ?_) (fun h => ?_)
  · refine wp_seq ?_
    refine L_region ?_
    refine L_mv ?_
    refine L_as ?_
    refine L_nil ?_
    refine E_n ?_
    refine C_ret ?_
    show bodyPost Tryd.prog Tryd.f41 (Rt Q) .ret _ _
    exact post_tmps (ts := [2]) (.inr rfl) rfl h
  · refine C_skip ?_
    refine E_n ?_
    refine wp_seq ?_
    refine wp_seq ?_
    refine L_region ?_
    refine L_mv ?_
    refine L_u (P_nc h) ?_
    intro v w h
    refine L_u (P_fa fo108_1 h) ?_
    intro v w h
    refine L_u (P_ld sc106 h) ?_
    intro v w h
    refine L_u (P_sm rfl h) ?_
    intro v w h
    refine L_nil ?_
    refine E_n ?_
    refine C_join (fun (k : Value → M) (ρ : Nat → Value) => k (ρ 0)) h (fun j1 J1 h => ?_) (fun ρ w h => ?_)
    · refine C_blk ?_
      refine C_lo (fun (l : Value → Value → M) (ρ : Nat → Value) => l (ρ 0) (ρ 15)) h (fun ρ w h => h) (fun nx self2 L2 ρ w h => ?_)
      unfold f41_b2 at h
      refine wp_seq ?_
      refine L_region ?_
      refine L_u (P_sm rfl h) ?_
      intro v w h
      refine L_u (P_ex h) ?_
      intro v w h
      refine L_nil ?_
      refine E_n ?_
      refine wp_seq ?_
      refine C_cnd h (fun h => ?_) (fun h => ?_)
      · refine C_skip ?_
        refine E_n ?_
        refine C_blk ?_
        refine wp_seq ?_
        refine L_region ?_
        refine L_u (P_smr rfl h) ?_
        intro v w h
        refine L_u (P_ex h) ?_
        intro v w h
        refine L_u (P_ex h) ?_
        intro v w h
        refine L_u (P_al ze113 rfl h) ?_
        intro v w h
        refine L_as ?_
        refine L_u (P_stn ag113 h) ?_
        intro w h
        refine L_nil ?_
        refine E_n ?_
        refine D_region (by decide +kernel) 8 rfl ?_
        replace h := dr_e h
        refine G_p 0 rfl (by decide +kernel) (Y_mv h) ?_
        intro v h
        refine G_p 1 rfl (by decide +kernel) (Y_nc h) ?_
        intro v h
        refine G_p 2 rfl (by decide +kernel) (Y_fa fo108_0 h) ?_
        intro v h
        refine G_r _ 3 rfl (by decide +kernel) (R_ld sc105 h) ?_
        intro v h
        refine G_p 4 rfl (by decide +kernel) (Y_mv h) ?_
        intro v h
        refine G_r _ 5 rfl (by decide +kernel) (R_ldn ag113 h) ?_
        intro v h
        refine G_p 6 rfl (by decide +kernel) (Y_ia se105 h) ?_
        intro v h
        refine G_e 7 rfl (by decide +kernel) (P_stn ag113 h ?_)
        intro w h
        refine ⟨keepF_dep [5] (by decide +kernel) rfl (keepF_dep [3] (by decide +kernel) rfl keepF_nil), ?_⟩
        refine G_done (by decide +kernel) ?_
        refine B_n ?_
        refine E_n ?_
        exact L2 _ _ h
      · refine C_exit ?_
        refine E_x ?_
        refine E_x ?_
        refine B_x ?_
        exact J1 _ _ h
    · unfold f41_j1 at h
      refine E_n ?_
      refine wp_seq ?_
      refine L_region ?_
      refine L_mv ?_
      refine L_u (P_nc h) ?_
      intro v w h
      refine L_u (P_fa fo108_1 h) ?_
      intro v w h
      refine L_u (P_ld sc106 h) ?_
      intro v w h
      refine L_u (N_bin rfl h) ?_
      intro w h
      refine L_nil ?_
      refine E_n ?_
      refine wp_seq ?_
      refine L_region ?_
      refine L_as ?_
      refine L_nil ?_
      refine E_n ?_
      refine C_ret ?_
      show bodyPost Tryd.prog Tryd.f41 (Rt Q) .ret _ _
      exact post_tmps (ts := [2]) (.inr rfl) rfl h

/- factotum/pager.all -/
def f74_b2 (j1 : M) (self2 : Value → Value → Value → M) (t6 t7_1 t8 : Value) : M :=
  lt .i64 t8 t7_1 fun t9 =>
  cnd t9 (
    ia 1 t6 t8 fun t10 =>
    ld t10 fun t11 =>
    cf Tryd.prog t11 #[] fun t13 =>
    nei .i64 t13 (.int .i64 0) fun t15 =>
    cnd t15 (
      rt t13
      ) (
      ad .i64 t8 (.int .i64 1) fun t17 =>
      self2 t6 t7_1 t17
      )
    ) (
    j1
    )
def f74_j1 : M :=
  rt (.int .i64 0)
def f74 (t0 : Value) : M :=
  lnl t0 fun t7 =>
  jn (fun (j1 : M) =>
    lo (fun _ _ _ => bot) (f74_b2 j1) (fun l => l t0 t7 (.int .i64 0))
    ) (f74_j1)
theorem s74 (t0 : Value) (w : World) (Q : Value → World → Prop) (h : f74 t0 w Q) : Calls Tryd.prog 74 #[t0] w (Rt Q) := by
  refine calls_of (l := [t0]) Tryd.func74 rfl Tryd.ntmps74 (Nat.le_of_ble_eq_true rfl) ?_
  unfold f74 at h
  refine wp_seq ?_
  refine L_region ?_
  refine L_as ?_
  refine L_nil ?_
  refine E_n ?_
  refine wp_seq ?_
  refine wp_seq ?_
  refine L_region ?_
  refine L_mv ?_
  refine L_u (P_lnl is116 h) ?_
  intro v w h
  refine L_mv ?_
  refine L_nil ?_
  refine E_n ?_
  refine C_join (fun (k : M) (ρ : Nat → Value) => k) h (fun j1 J1 h => ?_) (fun ρ w h => ?_)
  · refine C_blk ?_
    refine C_lo (fun (l : Value → Value → Value → M) (ρ : Nat → Value) => l (ρ 6) (ρ 7) (ρ 8)) h (fun ρ w h => h) (fun nx self2 L2 ρ w h => ?_)
    unfold f74_b2 at h
    refine wp_seq ?_
    refine L_region ?_
    refine L_u (P_lt h) ?_
    intro v w h
    refine L_nil ?_
    refine E_n ?_
    refine wp_seq ?_
    refine C_cnd h (fun h => ?_) (fun h => ?_)
    · refine C_skip ?_
      refine E_n ?_
      refine wp_seq ?_
      refine C_blk ?_
      refine wp_seq ?_
      refine L_region ?_
      refine L_u (P_ia se116 h) ?_
      intro v w h
      refine L_u (P_ld sc146 h) ?_
      intro v w h
      refine L_as ?_
      refine L_nil ?_
      refine E_n ?_
      refine wp_seq ?_
      refine L_region ?_
      refine L_mv ?_
      refine L_u (N_cf h) ?_
      intro v w h
      refine L_as ?_
      refine L_nil ?_
      refine E_n ?_
      refine wp_seq ?_
      refine L_region ?_
      refine L_mv ?_
      refine L_u (P_nei h) ?_
      intro v w h
      refine L_nil ?_
      refine E_n ?_
      refine C_cnd h (fun h => ?_) (fun h => ?_)
      · refine wp_seq ?_
        refine L_region ?_
        refine L_mv ?_
        refine L_as ?_
        refine L_nil ?_
        refine E_n ?_
        refine C_ret ?_
        show bodyPost Tryd.prog Tryd.f74 (Rt Q) .ret _ _
        exact post_tmps (ts := [2]) (.inr rfl) rfl h
      · refine C_skip ?_
        refine B_n ?_
        refine E_n ?_
        refine L_region ?_
        refine L_u (P_ad h) ?_
        intro v w h
        refine L_mv ?_
        refine L_nil ?_
        refine E_n ?_
        exact L2 _ _ h
    · refine C_exit ?_
      refine E_x ?_
      refine E_x ?_
      refine B_x ?_
      exact J1 _ _ h
  · unfold f74_j1 at h
    refine E_n ?_
    refine wp_seq ?_
    refine L_region ?_
    refine L_as ?_
    refine L_nil ?_
    refine E_n ?_
    refine C_ret ?_
    show bodyPost Tryd.prog Tryd.f74 (Rt Q) .ret _ _
    exact post_tmps (ts := [2]) (.inr rfl) rfl h

/- (*factotum/pager.Pager).recover$1 -/
def f94 (t0 t1 : Value) : M :=
  ld t1 fun t4 =>
  cl (f20 t4 t0) fun t6 =>
  rt t6
theorem s94 (t0 t1 : Value) (w : World) (Q : Value → World → Prop) (h : f94 t0 t1 w Q) : Calls Tryd.prog 94 #[t0, t1] w (Rt Q) := by
  refine calls_of (l := [t0, t1]) Tryd.func94 rfl Tryd.ntmps94 (Nat.le_of_ble_eq_true rfl) ?_
  unfold f94 at h
  refine wp_seq ?_
  refine L_region ?_
  refine L_as ?_
  refine L_nil ?_
  refine E_n ?_
  refine wp_seq ?_
  refine L_region ?_
  refine L_u (P_ld sc3 h) ?_
  intro v w h
  refine L_mv ?_
  refine L_u (N_cl Tryd.func20 rfl nn20 (fun w Q h => s20 _ _ w Q h) h) ?_
  intro v w h
  refine L_as ?_
  refine L_nil ?_
  refine E_n ?_
  refine C_ret ?_
  show bodyPost Tryd.prog Tryd.f94 (Rt Q) .ret _ _
  exact post_tmps (ts := [3]) (.inr rfl) rfl h

/- (*factotum/device.Device).Write -/
def f40 (t0 t1 t2 : Value) : M :=
  cl (f72 t0) fun t10 =>
  nei .i64 t10 (.int .i64 0) fun t12 =>
  cnd t12 (
    rt t10
    ) (
    lt .i64 t1 (.int .i64 0) fun t16 =>
    gd t16 false (idv t1) fun t18 =>
    gd t16 false (idv t0) fun t19 =>
    gd t16 false (nc t19) fun t20 =>
    gd t16 false (fa 0 t20) fun t21 =>
    gd t16 false (ld t21) fun t22 =>
    gd t16 false (lnl t22) fun t23 =>
    gd t16 false (ge .i64 t18 t23) fun t24 =>
    pk t16 (.bool true) t24 fun t25 =>
    cnd t25 (
      rt (.int .i64 7)
      ) (
      lns t2 fun t28 =>
      gt .i64 t28 (.int .i64 64) fun t29 =>
      cnd t29 (
        rt (.int .i64 3)
        ) (
        al 113 (Array.replicate 64 (.int .u8 0)) fun t8 =>
        sla 64 1 t8 none none fun t30 =>
        sm Tryd.prog (Builtin.copy_ #[66, 9] 3 #[t30, t2]) fun t32 =>
        dr <|
        idv t0 fun t33 =>
        nc t33 fun t34 =>
        fa 1 t34 fun t35 =>
        ld t35 fun t36 =>
        idv t1 fun t37 =>
        ldn 64 t8 fun t38 =>
        smu Tryd.prog (Instr.mapUpdate 106 t36 t37 t38) <|
        rt (.int .i64 0)
        )
      )
    )
theorem s40 (t0 t1 t2 : Value) (w : World) (Q : Value → World → Prop) (h : f40 t0 t1 t2 w Q) : Calls Tryd.prog 40 #[t0, t1, t2] w (Rt Q) := by
  refine calls_of (l := [t0, t1, t2]) Tryd.func40 rfl Tryd.ntmps40 (Nat.le_of_ble_eq_true rfl) ?_
  unfold f40 at h
  refine wp_seq ?_
  refine L_region ?_
  refine L_as ?_
  refine L_nil ?_
  refine E_n ?_
  refine wp_seq ?_
  refine wp_seq ?_
  refine L_region ?_
  refine L_mv ?_
  refine L_u (N_cl Tryd.func72 rfl nn72 (fun w Q h => s72 _ w Q h) h) ?_
  intro v w h
  refine L_as ?_
  refine L_nil ?_
  refine E_n ?_
  refine wp_seq ?_
  refine L_region ?_
  refine L_mv ?_
  refine L_u (P_nei h) ?_
  intro v w h
  refine L_nil ?_
  refine E_n ?_
  refine C_cnd h (fun h => ?_) (fun h => ?_)
  · refine wp_seq ?_
    refine L_region ?_
    refine L_mv ?_
    refine L_as ?_
    refine L_nil ?_
    refine E_n ?_
    refine C_ret ?_
    show bodyPost Tryd.prog Tryd.f40 (Rt Q) .ret _ _
    exact post_tmps (ts := [6]) (.inr rfl) rfl h
  · refine C_skip ?_
    refine E_n ?_
    refine wp_seq ?_
    refine C_blk ?_
    refine wp_seq ?_
    refine L_region ?_
    refine L_mv ?_
    refine L_u (P_lt h) ?_
    intro v w h
    refine L_mv ?_
    refine L_g (t := 17) h rfl rfl (fun c h => P_mv h c) ?_
    intro v w h
    refine L_g (t := 17) h rfl rfl (fun c h => P_mv h c) ?_
    intro v w h
    refine L_g (t := 17) h rfl rfl (fun c h => P_nc h c) ?_
    intro v w h
    refine L_g (t := 17) h rfl rfl (fun c h => P_fa fo108_0 h c) ?_
    intro v w h
    refine L_g (t := 17) h rfl rfl (fun c h => P_ld sc105 h c) ?_
    intro v w h
    refine L_g (t := 17) h rfl rfl (fun c h => P_lnl is105 h c) ?_
    intro v w h
    refine L_g (t := 17) h rfl rfl (fun c h => P_ge h c) ?_
    intro v w h
    refine L_u (P_pk h) ?_
    intro v w h
    refine L_as ?_
    refine L_nil ?_
    refine E_n ?_
    refine C_cnd h (fun h => ?_) (fun h => ?_)
    · refine wp_seq ?_
      refine L_region ?_
      refine L_as ?_
      refine L_nil ?_
      refine E_n ?_
      refine C_ret ?_
      show bodyPost Tryd.prog Tryd.f40 (Rt Q) .ret _ _
      exact post_tmps (ts := [6]) (.inr rfl) rfl h
    · refine wp_seq ?_
      refine L_region ?_
      refine L_mv ?_
      refine L_u (P_lns st9 h) ?_
      intro v w h
      refine L_u (P_gt h) ?_
      intro v w h
      refine L_as ?_
      refine L_nil ?_
      refine E_n ?_
      refine C_cnd h (fun h => ?_) (fun h => ?_)
      · refine wp_seq ?_
        refine L_region ?_
        refine L_as ?_
        refine L_nil ?_
        refine E_n ?_
        refine C_ret ?_
        show bodyPost Tryd.prog Tryd.f40 (Rt Q) .ret _ _
        exact post_tmps (ts := [6]) (.inr rfl) rfl h
      · refine C_skip ?_
        refine B_n ?_
        refine E_n ?_
        refine wp_seq ?_
        refine L_region ?_
        refine L_u (P_al ze113 rfl h) ?_
        intro v w h
        refine L_nil ?_
        refine E_n ?_
        refine wp_seq ?_
        refine L_region ?_
        refine L_u (P_sla ae113 h) ?_
        intro v w h
        refine L_mv ?_
        refine L_u (N_bi rfl h) ?_
        intro v w h
        refine L_nil ?_
        refine E_n ?_
        refine wp_seq ?_
        refine D_region (by decide +kernel) 7 rfl ?_
        replace h := dr_e h
        refine G_p 0 rfl (by decide +kernel) (Y_mv h) ?_
        intro v h
        refine G_p 1 rfl (by decide +kernel) (Y_nc h) ?_
        intro v h
        refine G_p 2 rfl (by decide +kernel) (Y_fa fo108_1 h) ?_
        intro v h
        refine G_r _ 3 rfl (by decide +kernel) (R_ld sc106 h) ?_
        intro v h
        refine G_p 4 rfl (by decide +kernel) (Y_mv h) ?_
        intro v h
        refine G_r _ 5 rfl (by decide +kernel) (R_ldn ag113 h) ?_
        intro v h
        refine G_e 6 rfl (by decide +kernel) (P_smu rfl h ?_)
        intro w h
        refine ⟨keepF_dep [5] (by decide +kernel) rfl (keepF_dep [3] (by decide +kernel) rfl keepF_nil), ?_⟩
        refine G_done (by decide +kernel) ?_
        refine E_n ?_
        refine wp_seq ?_
        refine L_region ?_
        refine L_as ?_
        refine L_nil ?_
        refine E_n ?_
        refine C_ret ?_
        show bodyPost Tryd.prog Tryd.f40 (Rt Q) .ret _ _
        exact post_tmps (ts := [6]) (.inr rfl) rfl h

/- (*factotum/pager.Pager).write$1 -/
def f111 (t0 t1 t2 : Value) : M :=
  dr <|
  ld t0 fun t4 =>
  nc t4 fun t5 =>
  fa 0 t5 fun t6 =>
  ld t6 fun t7 =>
  ld t1 fun t8 =>
  ld t2 fun t9 =>
  cl (f40 t7 t8 t9) fun t10 =>
  idv t10 fun t3 =>
  rt t3
theorem s111 (t0 t1 t2 : Value) (w : World) (Q : Value → World → Prop) (h : f111 t0 t1 t2 w Q) : Calls Tryd.prog 111 #[t0, t1, t2] w (Rt Q) := by
  refine calls_of (l := [t0, t1, t2]) Tryd.func111 rfl Tryd.ntmps111 (Nat.le_of_ble_eq_true rfl) ?_
  unfold f111 at h
  refine wp_seq ?_
  refine L_region ?_
  refine L_as ?_
  refine L_nil ?_
  refine E_n ?_
  refine wp_seq ?_
  refine D_region (by decide +kernel) 8 rfl ?_
  replace h := dr_e h
  refine G_r _ 0 rfl (by decide +kernel) (R_ld sc49 h) ?_
  intro v h
  refine G_p 1 rfl (by decide +kernel) (Y_nc h) ?_
  intro v h
  refine G_p 2 rfl (by decide +kernel) (Y_fa fo110_0 h) ?_
  intro v h
  refine G_r _ 3 rfl (by decide +kernel) (R_ld sc58 h) ?_
  intro v h
  refine G_r _ 4 rfl (by decide +kernel) (R_ld sc3 h) ?_
  intro v h
  refine G_r _ 5 rfl (by decide +kernel) (R_ld sc9 h) ?_
  intro v h
  refine G_e 6 rfl (by decide +kernel) (N_cl Tryd.func40 rfl nn40 (fun w Q h => s40 _ _ _ w Q h) h ?_)
  intro v w h
  refine ⟨keepF_dep [5] (by decide +kernel) rfl (keepF_dep [4] (by decide +kernel) rfl (keepF_dep [3] (by decide +kernel) rfl (keepF_dep [3, 2, 1, 0] (by decide +kernel) rfl keepF_nil))), ?_⟩
  refine G_p 7 rfl (by decide +kernel) (Y_as h) ?_
  intro v h
  refine G_done (by decide +kernel) ?_
  refine E_n ?_
  refine C_ret ?_
  show bodyPost Tryd.prog Tryd.f111 (Rt Q) .ret _ _
  exact post_tmps (ts := [3]) (.inr rfl) rfl h

/- (*factotum/pager.Pager).write -/
def f100 (t0 t1 t2 : Value) : M :=
  bx 49 t0 fun t3 =>
  bx 3 t1 fun t4 =>
  bx 9 t2 fun t5 =>
  idv (.func (.func 111) #[] #[t3, t4, t5]) fun t7 =>
  rt t7
theorem s100 (t0 t1 t2 : Value) (w : World) (Q : Value → World → Prop) (h : f100 t0 t1 t2 w Q) : Calls Tryd.prog 100 #[t0, t1, t2] w (Rt Q) := by
  refine calls_of (l := [t0, t1, t2]) Tryd.func100 rfl Tryd.ntmps100 (Nat.le_of_ble_eq_true rfl) ?_
  unfold f100 at h
  refine wp_seq ?_
  refine L_region ?_
  refine L_u (P_bx h) ?_
  intro v w h
  refine L_u (P_bx h) ?_
  intro v w h
  refine L_u (P_bx h) ?_
  intro v w h
  refine L_as ?_
  refine L_nil ?_
  refine E_n ?_
  refine wp_seq ?_
  refine L_region ?_
  refine L_u (N_mf h) ?_
  intro v w h
  refine L_as ?_
  refine L_nil ?_
  refine E_n ?_
  refine C_ret ?_
  show bodyPost Tryd.prog Tryd.f100 (Rt Q) .ret _ _
  exact post_tmps (ts := [6]) (.inr rfl) rfl h

/- (*factotum/pager.Pager).page -/
def f95_b2 (j1 : Value → M) (self2 : Value → Value → Value → Value → Value → Value → M) (t0_1 t1_1 t9 t17 t18_1 t19 : Value) : M :=
  lt .i64 t19 t18_1 fun t20 =>
  cnd t20 (
    ia 1 t17 t19 fun t22 =>
    ld t22 fun t23 =>
    cf Tryd.prog t1_1 #[t19] fun t28 =>
    cl (f100 t0_1 t28 t23) fun t30 =>
    sm Tryd.prog (Instr.buildSlice 116 1 #[(0, t30)]) fun t31 =>
    sm Tryd.prog (Builtin.append_ #[116, 116] 116 #[t9, t31]) fun t32 =>
    ad .i64 t19 (.int .i64 1) fun t33 =>
    self2 t0_1 t1_1 t32 t17 t18_1 t33
    ) (
    j1 t9
    )
def f95_j1 (t9_1 : Value) : M :=
  rt t9_1
def f95 (t0 t1 t2 : Value) : M :=
  cl (f23 t2) fun t14 =>
  ex 0 t14 fun t15 =>
  ex 1 t14 fun t16 =>
  lnl t15 fun t18 =>
  jn (fun (j1 : Value → M) =>
    lo (fun _ _ _ _ _ _ => bot) (f95_b2 j1) (fun l => l t0 t1 (.slice none 0 0) t15 t18 (.int .i64 0))
    ) (f95_j1)
theorem s95 (t0 t1 t2 : Value) (w : World) (Q : Value → World → Prop) (h : f95 t0 t1 t2 w Q) : Calls Tryd.prog 95 #[t0, t1, t2] w (Rt Q) := by
  refine calls_of (l := [t0, t1, t2]) Tryd.func95 rfl Tryd.ntmps95 (Nat.le_of_ble_eq_true rfl) ?_
  unfold f95 at h
  refine wp_seq ?_
  refine L_region ?_
  refine L_as ?_
  refine L_nil ?_
  refine E_n ?_
  refine wp_seq ?_
  refine L_region ?_
  refine L_mv ?_
  refine L_u (N_cl Tryd.func23 rfl nn23 (fun w Q h => s23 _ w Q h) h) ?_
  intro v w h
  refine L_mv ?_
  refine L_u (P_ex h) ?_
  intro v w h
  refine L_u (P_ex h) ?_
  intro v w h
  refine L_as ?_
  refine L_as ?_
  refine L_nil ?_
  refine E_n ?_
  refine wp_seq ?_
  refine L_region ?_
  refine L_as ?_
  refine L_nil ?_
  refine E_n ?_
  refine wp_seq ?_
  refine wp_seq ?_
  refine L_region ?_
  refine L_mv ?_
  refine L_u (P_lnl is39 h) ?_
  intro v w h
  refine L_mv ?_
  refine L_nil ?_
  refine E_n ?_
  refine C_join (fun (k : Value → M) (ρ : Nat → Value) => k (ρ 9)) h (fun j1 J1 h => ?_) (fun ρ w h => ?_)
  · refine C_blk ?_
    refine C_lo (fun (l : Value → Value → Value → Value → Value → Value → M) (ρ : Nat → Value) => l (ρ 0) (ρ 1) (ρ 9) (ρ 17) (ρ 18) (ρ 19)) h (fun ρ w h => h) (fun nx self2 L2 ρ w h => ?_)
    unfold f95_b2 at h
    refine wp_seq ?_
    refine L_region ?_
    refine L_u (P_lt h) ?_
    intro v w h
    refine L_nil ?_
    refine E_n ?_
    refine wp_seq ?_
    refine C_cnd h (fun h => ?_) (fun h => ?_)
    · refine C_skip ?_
      refine E_n ?_
      refine wp_seq ?_
      refine C_blk ?_
      refine wp_seq ?_
      refine L_region ?_
      refine L_mv ?_
      refine L_u (P_ia se39 h) ?_
      intro v w h
      refine L_u (P_ld sc9 h) ?_
      intro v w h
      refine L_as ?_
      refine L_as ?_
      refine L_nil ?_
      refine E_n ?_
      refine L_region ?_
      refine L_mv ?_
      refine L_mv ?_
      refine L_mv ?_
      refine L_mv ?_
      refine L_u (N_cf h) ?_
      intro v w h
      refine L_mv ?_
      refine L_u (N_cl Tryd.func100 rfl nn100 (fun w Q h => s100 _ _ _ w Q h) h) ?_
      intro v w h
      refine L_u (N_bsl h) ?_
      intro v w h
      refine L_u (N_bi rfl h) ?_
      intro v w h
      refine L_as ?_
      refine L_nil ?_
      refine B_n ?_
      refine E_n ?_
      refine L_region ?_
      refine L_u (P_ad h) ?_
      intro v w h
      refine L_mv ?_
      refine L_nil ?_
      refine E_n ?_
      exact L2 _ _ h
    · refine C_exit ?_
      refine E_x ?_
      refine E_x ?_
      refine B_x ?_
      exact J1 _ _ h
  · unfold f95_j1 at h
    refine E_n ?_
    refine wp_seq ?_
    refine L_region ?_
    refine L_mv ?_
    refine L_as ?_
    refine L_nil ?_
    refine E_n ?_
    refine C_ret ?_
    show bodyPost Tryd.prog Tryd.f95 (Rt Q) .ret _ _
    exact post_tmps (ts := [6]) (.inr rfl) rfl h

/- (*factotum/pager.Pager).recover$2 -/
def f96 (t0 t1 : Value) : M :=
  ld t1 fun t4 =>
  cl (f21 t4 t0) fun t6 =>
  rt t6
theorem s96 (t0 t1 : Value) (w : World) (Q : Value → World → Prop) (h : f96 t0 t1 w Q) : Calls Tryd.prog 96 #[t0, t1] w (Rt Q) := by
  refine calls_of (l := [t0, t1]) Tryd.func96 rfl Tryd.ntmps96 (Nat.le_of_ble_eq_true rfl) ?_
  unfold f96 at h
  refine wp_seq ?_
  refine L_region ?_
  refine L_as ?_
  refine L_nil ?_
  refine E_n ?_
  refine wp_seq ?_
  refine L_region ?_
  refine L_u (P_ld sc3 h) ?_
  intro v w h
  refine L_mv ?_
  refine L_u (N_cl Tryd.func21 rfl nn21 (fun w Q h => s21 _ _ w Q h) h) ?_
  intro v w h
  refine L_as ?_
  refine L_nil ?_
  refine E_n ?_
  refine C_ret ?_
  show bodyPost Tryd.prog Tryd.f96 (Rt Q) .ret _ _
  exact post_tmps (ts := [3]) (.inr rfl) rfl h

/- (*factotum/pager.Pager).mark -/
def f97 (t0 t1 : Value) : M :=
  dr <|
  idv t0 fun t5 =>
  idv t1 fun t6 =>
  idv t0 fun t9 =>
  nc t9 fun t10 =>
  fa 0 t10 fun t11 =>
  ld t11 fun t12 =>
  idv (.func (.func 41) #[t12] #[]) fun t13 =>
  cl (f18 t6) fun t7 =>
  kp (Kld t11 t12) <|
  cl (f100 t5 (.int .i64 0) t7) fun t8 =>
  kp (Kld t11 t12) <|
  sm Tryd.prog (Instr.buildSlice 116 2 #[(0, t8), (1, t13)]) fun t14 =>
  idv t14 fun t4 =>
  rt t4
theorem s97 (t0 t1 : Value) (w : World) (Q : Value → World → Prop) (h : f97 t0 t1 w Q) : Calls Tryd.prog 97 #[t0, t1] w (Rt Q) := by
  refine calls_of (l := [t0, t1]) Tryd.func97 rfl Tryd.ntmps97 (Nat.le_of_ble_eq_true rfl) ?_
  unfold f97 at h
  refine wp_seq ?_
  refine L_region ?_
  refine L_as ?_
  refine L_nil ?_
  refine E_n ?_
  refine wp_seq ?_
  refine D_region (by decide +kernel) 11 rfl ?_
  replace h := dr_e h
  refine G_p 0 rfl (by decide +kernel) (Y_mv h) ?_
  intro v h
  refine G_p 1 rfl (by decide +kernel) (Y_mv h) ?_
  intro v h
  refine G_p 4 rfl (by decide +kernel) (Y_mv h) ?_
  intro v h
  refine G_p 5 rfl (by decide +kernel) (Y_nc h) ?_
  intro v h
  refine G_p 6 rfl (by decide +kernel) (Y_fa fo110_0 h) ?_
  intro v h
  refine G_r _ 7 rfl (by decide +kernel) (R_ld sc58 h) ?_
  intro v h
  refine G_p 8 rfl (by decide +kernel) (Y_nmf h) ?_
  intro v h
  refine G_e 2 rfl (by decide +kernel) (N_cl Tryd.func18 rfl nn18 (fun w Q h => s18 _ w Q h) h ?_)
  intro v w h
  refine ⟨keepF_cons (kp_1 h) keepF_nil, ?_⟩
  replace h := (kp_2 h)
  refine G_e 3 rfl (by decide +kernel) (N_cl Tryd.func100 rfl nn100 (fun w Q h => s100 _ _ _ w Q h) h ?_)
  intro v w h
  refine ⟨keepF_cons (kp_1 h) keepF_nil, ?_⟩
  replace h := (kp_2 h)
  refine G_e 9 rfl (by decide +kernel) (N_bsl h ?_)
  intro v w h
  refine ⟨keepF_dep [8, 7] (by decide +kernel) rfl keepF_nil, ?_⟩
  refine G_p 10 rfl (by decide +kernel) (Y_as h) ?_
  intro v h
  refine G_done (by decide +kernel) ?_
  refine E_n ?_
  refine C_ret ?_
  show bodyPost Tryd.prog Tryd.f97 (Rt Q) .ret _ _
  exact post_tmps (ts := [4]) (.inr rfl) rfl h
end Go.Proofs.YtongpnolikkknaaDoor

set_option maxRecDepth 20000
set_option maxHeartbeats 4000000
namespace Go.Proofs.YtongpnolikkknaaDoor
open Sh
attribute [local irreducible] wpL anyG act jn lo gdB amb kp smr nc fa ld ldn st stn ad su mu qu re lt le gt ge eqi nei bws shl shr cat eqs nes lts gts eqb neb nt pk cv al bx ex fld fldn lnl lns ia iaa ixs sls sll sla mif mnm mxm mm asrt sm smu cl cc cf ci cnd gd gdu
/- (*factotum/pager.Pager).recover -/
def f71_b2 (j1 : Value → Value → M) (self2 : Value → Value → Value → Value → Value → M) (t0_1 t5 t19 t20_1 t21 : Value) : M :=
  lt .i64 t21 t20_1 fun t22 =>
  cnd t22 (
    ia 1 t19 t21 fun t24 =>
    ld t24 fun t25 =>
    al 3 #[(.int .i64 0)] fun t6 =>
    al 3 #[(.int .i64 0)] fun t7 =>
    st t6 t21 <|
    st t7 t25 <|
    dr <|
    ld t7 fun t26 =>
    idv t0_1 fun t27 =>
    nc t27 fun t28 =>
    fa 1 t28 fun t29 =>
    ld t29 fun t30 =>
    lnl t30 fun t31 =>
    ge .i64 t26 t31 fun t32 =>
    cnd t32 (
      rt (.int .i64 10)
      ) (
      dr <|
      idv t0_1 fun t33 =>
      nc t33 fun t34 =>
      fa 1 t34 fun t35 =>
      ld t35 fun t36 =>
      ld t7 fun t37 =>
      idv t0_1 fun t38 =>
      idv (.func (.func 94) #[] #[t6]) fun t39 =>
      cl (f68 t38 t39) fun t40 =>
      kp (Kld t7 t37) <|
      kp (Kld t35 t36) <|
      ia 1 t36 t37 fun t41 =>
      st t41 t40 <|
      dr <|
      idv t5 fun t42 =>
      idv t0_1 fun t43 =>
      idv (.func (.func 96) #[] #[t7]) fun t44 =>
      idv t0_1 fun t45 =>
      nc t45 fun t46 =>
      fa 1 t46 fun t47 =>
      ld t47 fun t48 =>
      ld t7 fun t49 =>
      ia 1 t48 t49 fun t50 =>
      ld t50 fun t51 =>
      cl (f95 t43 t44 t51) fun t52 =>
      sm Tryd.prog (Builtin.append_ #[116, 116] 116 #[t42, t52]) fun t53 =>
      idv t53 fun t5_1 =>
      ad .i64 t21 (.int .i64 1) fun t54 =>
      self2 t0_1 t5_1 t19 t20_1 t54
      )
    ) (
    j1 t0_1 t5
    )
def f71_j1 (t0_2 t5_2 : Value) : M :=
  nc t0_2 fun t57 =>
  fa 0 t57 fun t58 =>
  ld t58 fun t59 =>
  idv (.func (.func 41) #[t59] #[]) fun t60 =>
  sm Tryd.prog (Instr.buildSlice 116 1 #[(0, t60)]) fun t61 =>
  sm Tryd.prog (Builtin.append_ #[116, 116] 116 #[t5_2, t61]) fun t62 =>
  cl (f97 t0_2 (.bool false)) fun t64 =>
  sm Tryd.prog (Builtin.append_ #[116, 116] 116 #[t62, t64]) fun t65 =>
  cl (f74 t65) fun t67 =>
  rt t67
def f71 (t0 : Value) : M :=
  nc t0 fun t10 =>
  fa 0 t10 fun t11 =>
  ld t11 fun t12 =>
  cl (f70 t12 (.int .i64 1)) fun t13 =>
  cl (f15 t13) fun t14 =>
  ex 0 t14 fun t15 =>
  ex 1 t14 fun t16 =>
  nei .i64 t16 (.int .i64 0) fun t18 =>
  cnd t18 (
    rt (.int .i64 10)
    ) (
    lnl t15 fun t20 =>
    jn (fun (j1 : Value → Value → M) =>
      lo (fun _ _ _ _ _ => bot) (f71_b2 j1) (fun l => l t0 (.slice none 0 0) t15 t20 (.int .i64 0))
      ) (f71_j1)
    )
theorem s71 (t0 : Value) (w : World) (Q : Value → World → Prop) (h : f71 t0 w Q) : Calls Tryd.prog 71 #[t0] w (Rt Q) := by
  refine calls_of (l := [t0]) Tryd.func71 rfl Tryd.ntmps71 (Nat.le_of_ble_eq_true rfl) ?_
  unfold f71 at h
  refine wp_seq ?_
  refine L_region ?_
  refine L_as ?_
  refine L_nil ?_
  refine E_n ?_
  refine wp_seq ?_
  refine L_region ?_
  refine L_mv ?_
  refine L_u (P_nc h) ?_
  intro v w h
  refine L_u (P_fa fo110_0 h) ?_
  intro v w h
  refine L_u (P_ld sc58 h) ?_
  intro v w h
  refine L_u (N_cl Tryd.func70 rfl nn70 (fun w Q h => s70 _ _ w Q h) h) ?_
  intro v w h
  refine L_u (N_cl Tryd.func15 rfl nn15 (fun w Q h => s15 _ w Q h) h) ?_
  intro v w h
  refine L_mv ?_
  refine L_u (P_ex h) ?_
  intro v w h
  refine L_u (P_ex h) ?_
  intro v w h
  refine L_as ?_
  refine L_as ?_
  refine L_nil ?_
  refine E_n ?_
  refine wp_seq ?_
  refine wp_seq ?_
  refine L_region ?_
  refine L_mv ?_
  refine L_u (P_nei h) ?_
  intro v w h
  refine L_nil ?_
  refine E_n ?_
  refine C_cnd h (fun h => ?_) (fun h => ?_)
  · refine wp_seq ?_
    refine L_region ?_
    refine L_as ?_
    refine L_nil ?_
    refine E_n ?_
    refine C_ret ?_
    show bodyPost Tryd.prog Tryd.f71 (Rt Q) .ret _ _
    exact post_tmps (ts := [2]) (.inr rfl) rfl h
  · refine C_skip ?_
    refine E_n ?_
    refine wp_seq ?_
    refine L_region ?_
    refine L_as ?_
    refine L_nil ?_
    refine E_n ?_
    refine wp_seq ?_
    refine wp_seq ?_
    refine L_region ?_
    refine L_mv ?_
    refine L_u (P_lnl is22 h) ?_
    intro v w h
    refine L_mv ?_
    refine L_nil ?_
    refine E_n ?_
    refine C_join (fun (k : Value → Value → M) (ρ : Nat → Value) => k (ρ 0) (ρ 5)) h (fun j1 J1 h => ?_) (fun ρ w h => ?_)
    · refine C_blk ?_
      refine C_lo (fun (l : Value → Value → Value → Value → Value → M) (ρ : Nat → Value) => l (ρ 0) (ρ 5) (ρ 19) (ρ 20) (ρ 21)) h (fun ρ w h => h) (fun nx self2 L2 ρ w h => ?_)
      unfold f71_b2 at h
      refine wp_seq ?_
      refine L_region ?_
      refine L_u (P_lt h) ?_
      intro v w h
      refine L_nil ?_
      refine E_n ?_
      refine wp_seq ?_
      refine C_cnd h (fun h => ?_) (fun h => ?_)
      · refine C_skip ?_
        refine E_n ?_
        refine wp_seq ?_
        refine C_blk ?_
        refine wp_seq ?_
        refine L_region ?_
        refine L_mv ?_
        refine L_u (P_ia se22 h) ?_
        intro v w h
        refine L_u (P_ld sc3 h) ?_
        intro v w h
        refine L_u (P_al ze3 rfl h) ?_
        intro v w h
        refine L_u (P_al ze3 rfl h) ?_
        intro v w h
        refine L_u (P_st on3 h) ?_
        intro w h
        refine L_u (P_st on3 h) ?_
        intro w h
        refine L_nil ?_
        refine E_n ?_
        refine wp_seq ?_
        refine wp_seq ?_
        refine D_region (by decide +kernel) 7 rfl ?_
        replace h := dr_e h
        refine G_r _ 0 rfl (by decide +kernel) (R_ld sc3 h) ?_
        intro v h
        refine G_p 1 rfl (by decide +kernel) (Y_mv h) ?_
        intro v h
        refine G_p 2 rfl (by decide +kernel) (Y_nc h) ?_
        intro v h
        refine G_p 3 rfl (by decide +kernel) (Y_fa fo110_1 h) ?_
        intro v h
        refine G_r _ 4 rfl (by decide +kernel) (R_ld sc39 h) ?_
        intro v h
        refine G_p 5 rfl (by decide +kernel) (Y_lnl is39 h) ?_
        intro v h
        refine G_p 6 rfl (by decide +kernel) (Y_ge h) ?_
        intro v h
        refine G_done (by decide +kernel) ?_
        refine E_n ?_
        refine C_cnd h (fun h => ?_) (fun h => ?_)
        · refine wp_seq ?_
          refine L_region ?_
          refine L_as ?_
          refine L_nil ?_
          refine E_n ?_
          refine C_ret ?_
          show bodyPost Tryd.prog Tryd.f71 (Rt Q) .ret _ _
          exact post_tmps (ts := [2]) (.inr rfl) rfl h
        · refine C_skip ?_
          refine E_n ?_
          refine wp_seq ?_
          refine D_region (by decide +kernel) 10 rfl ?_
          replace h := dr_e h
          refine G_p 0 rfl (by decide +kernel) (Y_mv h) ?_
          intro v h
          refine G_p 1 rfl (by decide +kernel) (Y_nc h) ?_
          intro v h
          refine G_p 2 rfl (by decide +kernel) (Y_fa fo110_1 h) ?_
          intro v h
          refine G_r _ 3 rfl (by decide +kernel) (R_ld sc39 h) ?_
          intro v h
          refine G_r _ 4 rfl (by decide +kernel) (R_ld sc3 h) ?_
          intro v h
          refine G_p 5 rfl (by decide +kernel) (Y_mv h) ?_
          intro v h
          refine G_p 6 rfl (by decide +kernel) (Y_nmf h) ?_
          intro v h
          refine G_e 7 rfl (by decide +kernel) (N_cl Tryd.func68 rfl nn68 (fun w Q h => s68 _ _ w Q h) h ?_)
          intro v w h
          refine ⟨keepF_cons (kp_1 h) (keepF_cons (kp_1 (kp_2 h)) keepF_nil), ?_⟩
          replace h := (kp_2 (kp_2 h))
          refine G_p 8 rfl (by decide +kernel) (Y_ia se39 h) ?_
          intro v h
          refine G_e 9 rfl (by decide +kernel) (P_st on9 h ?_)
          intro w h
          refine ⟨keepF_dep [4] (by decide +kernel) rfl (keepF_dep [3] (by decide +kernel) rfl keepF_nil), ?_⟩
          refine G_done (by decide +kernel) ?_
          refine E_n ?_
          refine D_region (by decide +kernel) 13 rfl ?_
          replace h := dr_e h
          refine G_p 0 rfl (by decide +kernel) (Y_mv h) ?_
          intro v h
          refine G_p 1 rfl (by decide +kernel) (Y_mv h) ?_
          intro v h
          refine G_p 2 rfl (by decide +kernel) (Y_nmf h) ?_
          intro v h
          refine G_p 3 rfl (by decide +kernel) (Y_mv h) ?_
          intro v h
          refine G_p 4 rfl (by decide +kernel) (Y_nc h) ?_
          intro v h
          refine G_p 5 rfl (by decide +kernel) (Y_fa fo110_1 h) ?_
          intro v h
          refine G_r _ 6 rfl (by decide +kernel) (R_ld sc39 h) ?_
          intro v h
          refine G_r _ 7 rfl (by decide +kernel) (R_ld sc3 h) ?_
          intro v h
          refine G_p 8 rfl (by decide +kernel) (Y_ia se39 h) ?_
          intro v h
          refine G_r _ 9 rfl (by decide +kernel) (R_ld sc9 h) ?_
          intro v h
          refine G_e 10 rfl (by decide +kernel) (N_cl Tryd.func95 rfl nn95 (fun w Q h => s95 _ _ _ w Q h) h ?_)
          intro v w h
          refine ⟨keepF_dep [9] (by decide +kernel) rfl (keepF_dep [9, 8, 7] (by decide +kernel) rfl (keepF_dep [9, 8, 6] (by decide +kernel) rfl keepF_nil)), ?_⟩
          refine G_e 11 rfl (by decide +kernel) (N_bi rfl h ?_)
          intro v w h
          refine ⟨keepF_dep [10, 9] (by decide +kernel) rfl (keepF_dep [10, 9, 8, 7] (by decide +kernel) rfl (keepF_dep [10, 9, 8, 6] (by decide +kernel) rfl keepF_nil)), ?_⟩
          refine G_p 12 rfl (by decide +kernel) (Y_as h) ?_
          intro v h
          refine G_done (by decide +kernel) ?_
          refine B_n ?_
          refine E_n ?_
          refine L_region ?_
          refine L_u (P_ad h) ?_
          intro v w h
          refine L_mv ?_
          refine L_nil ?_
          refine E_n ?_
          exact L2 _ _ h
      · refine C_exit ?_
        refine E_x ?_
        refine E_x ?_
        refine B_x ?_
        exact J1 _ _ h
    · unfold f71_j1 at h
      refine E_n ?_
      refine wp_seq ?_
      refine L_region ?_
      refine L_mv ?_
      refine L_mv ?_
      refine L_u (P_nc h) ?_
      intro v w h
      refine L_u (P_fa fo110_0 h) ?_
      intro v w h
      refine L_u (P_ld sc58 h) ?_
      intro v w h
      refine L_u (N_mf h) ?_
      intro v w h
      refine L_u (N_bsl h) ?_
      intro v w h
      refine L_u (N_bi rfl h) ?_
      intro v w h
      refine L_mv ?_
      refine L_u (N_cl Tryd.func97 rfl nn97 (fun w Q h => s97 _ _ w Q h) h) ?_
      intro v w h
      refine L_u (N_bi rfl h) ?_
      intro v w h
      refine L_as ?_
      refine L_nil ?_
      refine E_n ?_
      refine wp_seq ?_
      refine L_region ?_
      refine L_mv ?_
      refine L_u (N_cl Tryd.func74 rfl nn74 (fun w Q h => s74 _ w Q h) h) ?_
      intro v w h
      refine L_as ?_
      refine L_nil ?_
      refine E_n ?_
      refine C_ret ?_
      show bodyPost Tryd.prog Tryd.f71 (Rt Q) .ret _ _
      exact post_tmps (ts := [2]) (.inr rfl) rfl h

/- factotum/pager.Open -/
def f38_b2 (j1 : Value → Value → M) (self2 : Value → Value → Value → Value → M) (t0_1 t6 t29 t30 : Value) : M :=
  lt .i64 t30 t29 fun t31 =>
  cnd t31 (
    al 3 #[(.int .i64 0)] fun t7 =>
    st t7 t30 <|
    dr <|
    idv t6 fun t33 =>
    idv t6 fun t34 =>
    nc t34 fun t35 =>
    fa 1 t35 fun t36 =>
    ld t36 fun t37 =>
    idv t6 fun t38 =>
    idv (.func (.func 69) #[] #[t7]) fun t39 =>
    cl (f68 t38 t39) fun t40 =>
    kp (Kld t36 t37) <|
    sm Tryd.prog (Instr.buildSlice 39 1 #[(0, t40)]) fun t41 =>
    kp (Kld t36 t37) <|
    sm Tryd.prog (Builtin.append_ #[39, 39] 39 #[t37, t41]) fun t42 =>
    nc t33 fun t43 =>
    fa 1 t43 fun t44 =>
    st t44 t42 <|
    ad .i64 t30 (.int .i64 1) fun t45 =>
    self2 t0_1 t6 t29 t45
    ) (
    j1 t0_1 t6
    )
def f38_j3 (t6_2 : Value) : M :=
  rt (.tuple #[t6_2, (.int .i64 0)])
def f38_j1 (t0_2 t6_1 : Value) : M :=
  cl (f70 t0_2 (.int .i64 0)) fun t47 =>
  cl (f19 t47) fun t48 =>
  jn (fun (j3 : Value → M) =>
    cnd t48 (
      cl (f71 t6_1) fun t50 =>
      nei .i64 t50 (.int .i64 0) fun t52 =>
      cnd t52 (
        rt (.tuple #[(.pointer none), t50])
        ) (
        j3 t6_1
        )
      ) (
      j3 t6_1
      )
    ) (f38_j3)
def f38 (t0 t1 : Value) : M :=
  smr Tryd.prog (do eqGuard .eql 58 (.tmp 9) (.const (.pointer none)) t0 (.pointer none); binOp .eql 58 t0 (.pointer none)) fun t10 =>
  gd t10 false (idv t1) fun t12 =>
  gd t10 false (lt .i64 t12 (.int .i64 1)) fun t13 =>
  pk t10 (.bool true) t13 fun t14 =>
  gd t14 false (idv t1) fun t16 =>
  gd t14 false (gt .i64 t16 (.int .i64 160)) fun t17 =>
  pk t14 (.bool true) t17 fun t18 =>
  gd t18 false (idv t0) fun t20 =>
  gd t18 false (cl (f39 t20)) fun t21 =>
  gd t18 false (idv t1) fun t22 =>
  gd t18 false (cl (f22 t22)) fun t23 =>
  gd t18 false (lt .i64 t21 t23) fun t24 =>
  pk t18 (.bool true) t24 fun t25 =>
  cnd t25 (
    rt (.tuple #[(.pointer none), (.int .i64 1)])
    ) (
    smr Tryd.prog (Instr.build 110 #[(0, t0)]) fun t27 =>
    bx 110 t27 fun t28 =>
    jn (fun (j1 : Value → Value → M) =>
      lo (fun _ _ _ _ => bot) (f38_b2 j1) (fun l => l t0 t28 t1 (.int .i64 0))
      ) (f38_j1)
    )
theorem s38 (t0 t1 : Value) (w : World) (Q : Value → World → Prop) (h : f38 t0 t1 w Q) : Calls Tryd.prog 38 #[t0, t1] w (Rt Q) := by
  refine calls_of (l := [t0, t1]) Tryd.func38 rfl Tryd.ntmps38 (Nat.le_of_ble_eq_true rfl) ?_
  unfold f38 at h
  refine wp_seq ?_
  refine L_region ?_
  refine L_as ?_
  refine L_as ?_
  refine L_nil ?_
  refine E_n ?_
  refine wp_seq ?_
  refine wp_seq ?_
  refine L_region ?_
  refine L_mv ?_
  refine L_u (P_smr rfl h) ?_
  intro v w h
  refine L_mv ?_
  refine L_g (t := 11) h rfl rfl (fun c h => P_mv h c) ?_
  intro v w h
  refine L_g (t := 11) h rfl rfl (fun c h => P_lt h c) ?_
  intro v w h
  refine L_u (P_pk h) ?_
  intro v w h
  refine L_mv ?_
  refine L_g (t := 15) h rfl rfl (fun c h => P_mv h c) ?_
  intro v w h
  refine L_g (t := 15) h rfl rfl (fun c h => P_gt h c) ?_
  intro v w h
  refine L_u (P_pk h) ?_
  intro v w h
  refine L_mv ?_
  refine L_g (t := 19) h rfl rfl (fun c h => P_mv h c) ?_
  intro v w h
  refine L_g (t := 19) h rfl rfl (fun c h => N_cl Tryd.func39 rfl nn39 (fun w Q h => s39 _ w Q h) h c) ?_
  intro v w h
  refine L_g (t := 19) h rfl rfl (fun c h => P_mv h c) ?_
  intro v w h
  refine L_g (t := 19) h rfl rfl (fun c h => N_cl Tryd.func22 rfl nn22 (fun w Q h => s22 _ w Q h) h c) ?_
  intro v w h
  refine L_g (t := 19) h rfl rfl (fun c h => P_lt h c) ?_
  intro v w h
  refine L_u (P_pk h) ?_
  intro v w h
  refine L_nil ?_
  refine E_n ?_
  refine C_cnd h (fun h => ?_) (fun h => ?_)
  · refine wp_seq ?_
    refine L_region ?_
    refine L_as ?_
    refine L_as ?_
    refine L_nil ?_
    refine E_n ?_
    refine C_ret ?_
    show bodyPost Tryd.prog Tryd.f38 (Rt Q) .ret _ _
    exact post_tmps (ts := [4, 5]) (.inr rfl) rfl h
  · refine C_skip ?_
    refine E_n ?_
    refine wp_seq ?_
    refine L_region ?_
    refine L_mv ?_
    refine L_u (N_bld h) ?_
    intro v w h
    refine L_u (P_bx h) ?_
    intro v w h
    refine L_as ?_
    refine L_nil ?_
    refine E_n ?_
    refine wp_seq ?_
    refine wp_seq ?_
    refine L_region ?_
    refine L_mv ?_
    refine L_mv ?_
    refine L_nil ?_
    refine E_n ?_
    refine C_join (fun (k : Value → Value → M) (ρ : Nat → Value) => k (ρ 0) (ρ 6)) h (fun j1 J1 h => ?_) (fun ρ w h => ?_)
    · refine C_blk ?_
      refine C_lo (fun (l : Value → Value → Value → Value → M) (ρ : Nat → Value) => l (ρ 0) (ρ 6) (ρ 29) (ρ 30)) h (fun ρ w h => h) (fun nx self2 L2 ρ w h => ?_)
      unfold f38_b2 at h
      refine wp_seq ?_
      refine L_region ?_
      refine L_u (P_lt h) ?_
      intro v w h
      refine L_nil ?_
      refine E_n ?_
      refine wp_seq ?_
      refine C_cnd h (fun h => ?_) (fun h => ?_)
      · refine C_skip ?_
        refine E_n ?_
        refine wp_seq ?_
        refine C_blk ?_
        refine wp_seq ?_
        refine L_region ?_
        refine L_mv ?_
        refine L_u (P_al ze3 rfl h) ?_
        intro v w h
        refine L_u (P_st on3 h) ?_
        intro w h
        refine L_nil ?_
        refine E_n ?_
        refine D_region (by decide +kernel) 13 rfl ?_
        replace h := dr_e h
        refine G_p 0 rfl (by decide +kernel) (Y_mv h) ?_
        intro v h
        refine G_p 1 rfl (by decide +kernel) (Y_mv h) ?_
        intro v h
        refine G_p 2 rfl (by decide +kernel) (Y_nc h) ?_
        intro v h
        refine G_p 3 rfl (by decide +kernel) (Y_fa fo110_1 h) ?_
        intro v h
        refine G_r _ 4 rfl (by decide +kernel) (R_ld sc39 h) ?_
        intro v h
        refine G_p 5 rfl (by decide +kernel) (Y_mv h) ?_
        intro v h
        refine G_p 6 rfl (by decide +kernel) (Y_nmf h) ?_
        intro v h
        refine G_e 7 rfl (by decide +kernel) (N_cl Tryd.func68 rfl nn68 (fun w Q h => s68 _ _ w Q h) h ?_)
        intro v w h
        refine ⟨keepF_cons (kp_1 h) keepF_nil, ?_⟩
        replace h := (kp_2 h)
        refine G_e 8 rfl (by decide +kernel) (N_bsl h ?_)
        intro v w h
        refine ⟨keepF_cons (kp_1 h) keepF_nil, ?_⟩
        replace h := (kp_2 h)
        refine G_e 9 rfl (by decide +kernel) (N_bi rfl h ?_)
        intro v w h
        refine ⟨keepF_dep [4] (by decide +kernel) rfl keepF_nil, ?_⟩
        refine G_p 10 rfl (by decide +kernel) (Y_nc h) ?_
        intro v h
        refine G_p 11 rfl (by decide +kernel) (Y_fa fo110_1 h) ?_
        intro v h
        refine G_e 12 rfl (by decide +kernel) (P_st on39 h ?_)
        intro w h
        refine ⟨keepF_dep [4] (by decide +kernel) rfl keepF_nil, ?_⟩
        refine G_done (by decide +kernel) ?_
        refine B_n ?_
        refine E_n ?_
        refine L_region ?_
        refine L_u (P_ad h) ?_
        intro v w h
        refine L_mv ?_
        refine L_nil ?_
        refine E_n ?_
        exact L2 _ _ h
      · refine C_exit ?_
        refine E_x ?_
        refine E_x ?_
        refine B_x ?_
        exact J1 _ _ h
    · unfold f38_j1 at h
      refine E_n ?_
      refine wp_seq ?_
      refine wp_seq ?_
      refine L_region ?_
      refine L_mv ?_
      refine L_u (N_cl Tryd.func70 rfl nn70 (fun w Q h => s70 _ _ w Q h) h) ?_
      intro v w h
      refine L_u (N_cl Tryd.func19 rfl nn19 (fun w Q h => s19 _ w Q h) h) ?_
      intro v w h
      refine L_nil ?_
      refine E_n ?_
      refine C_join (fun (k : Value → M) (ρ : Nat → Value) => k (ρ 6)) h (fun j3 J3 h => ?_) (fun ρ w h => ?_)
      · refine C_cnd h (fun h => ?_) (fun h => ?_)
        · refine wp_seq ?_
          refine L_region ?_
          refine L_mv ?_
          refine L_u (N_cl Tryd.func71 rfl nn71 (fun w Q h => s71 _ w Q h) h) ?_
          intro v w h
          refine L_as ?_
          refine L_nil ?_
          refine E_n ?_
          refine wp_seq ?_
          refine L_region ?_
          refine L_mv ?_
          refine L_u (P_nei h) ?_
          intro v w h
          refine L_nil ?_
          refine E_n ?_
          refine C_cnd h (fun h => ?_) (fun h => ?_)
          · refine wp_seq ?_
            refine L_region ?_
            refine L_mv ?_
            refine L_as ?_
            refine L_as ?_
            refine L_nil ?_
            refine E_n ?_
            refine C_ret ?_
            show bodyPost Tryd.prog Tryd.f38 (Rt Q) .ret _ _
            exact post_tmps (ts := [4, 5]) (.inr rfl) rfl h
          · refine C_skip ?_
            exact J3 _ _ h
        · refine C_skip ?_
          exact J3 _ _ h
      · unfold f38_j3 at h
        refine E_n ?_
        refine wp_seq ?_
        refine L_region ?_
        refine L_mv ?_
        refine L_as ?_
        refine L_as ?_
        refine L_nil ?_
        refine E_n ?_
        refine C_ret ?_
        show bodyPost Tryd.prog Tryd.f38 (Rt Q) .ret _ _
        exact post_tmps (ts := [4, 5]) (.inr rfl) rfl h

/- factotum/factotumlaw07.opened -/
def f31 (t0 : Value) : M :=
  cl (f22 t0) fun t7 =>
  cl (f37 t7) fun t8 =>
  cl (f38 t8 t0) fun t10 =>
  ex 0 t10 fun t11 =>
  ex 1 t10 fun t12 =>
  nei .i64 t12 (.int .i64 0) fun t14 =>
  cnd t14 (
    rt (.pointer none)
    ) (
    rt t11
    )
theorem s31 (t0 : Value) (w : World) (Q : Value → World → Prop) (h : f31 t0 w Q) : Calls Tryd.prog 31 #[t0] w (Rt Q) := by
  refine calls_of (l := [t0]) Tryd.func31 rfl Tryd.ntmps31 (Nat.le_of_ble_eq_true rfl) ?_
  unfold f31 at h
  refine wp_seq ?_
  refine L_region ?_
  refine L_as ?_
  refine L_nil ?_
  refine E_n ?_
  refine wp_seq ?_
  refine L_region ?_
  refine L_mv ?_
  refine L_u (N_cl Tryd.func22 rfl nn22 (fun w Q h => s22 _ w Q h) h) ?_
  intro v w h
  refine L_u (N_cl Tryd.func37 rfl nn37 (fun w Q h => s37 _ w Q h) h) ?_
  intro v w h
  refine L_mv ?_
  refine L_u (N_cl Tryd.func38 rfl nn38 (fun w Q h => s38 _ _ w Q h) h) ?_
  intro v w h
  refine L_mv ?_
  refine L_u (P_ex h) ?_
  intro v w h
  refine L_u (P_ex h) ?_
  intro v w h
  refine L_as ?_
  refine L_as ?_
  refine L_nil ?_
  refine E_n ?_
  refine wp_seq ?_
  refine wp_seq ?_
  refine L_region ?_
  refine L_mv ?_
  refine L_u (P_nei h) ?_
  intro v w h
  refine L_nil ?_
  refine E_n ?_
  refine C_cnd h (fun h => ?_) (fun h => ?_)
  · refine wp_seq ?_
    refine L_region ?_
    refine L_as ?_
    refine L_nil ?_
    refine E_n ?_
    refine C_ret ?_
    show bodyPost Tryd.prog Tryd.f31 (Rt Q) .ret _ _
    exact post_tmps (ts := [2]) (.inr rfl) rfl h
  · refine C_skip ?_
    refine E_n ?_
    refine wp_seq ?_
    refine L_region ?_
    refine L_mv ?_
    refine L_as ?_
    refine L_nil ?_
    refine E_n ?_
    refine C_ret ?_
    show bodyPost Tryd.prog Tryd.f31 (Rt Q) .ret _ _
    exact post_tmps (ts := [2]) (.inr rfl) rfl h

/- (*factotum/pager.Pager).Read -/
def f44 (t0 t1 : Value) : M :=
  smr Tryd.prog (do eqGuard .eql 49 (.tmp 7) (.const (.pointer none)) t0 (.pointer none); binOp .eql 49 t0 (.pointer none)) fun t8 =>
  cnd t8 (
    rt (.tuple #[(.string ⟨#[]⟩), (.int .i64 1)])
    ) (
    lt .i64 t1 (.int .i64 0) fun t11 =>
    gd t11 false (idv t1) fun t13 =>
    gd t11 false (idv t0) fun t14 =>
    gd t11 false (nc t14) fun t15 =>
    gd t11 false (fa 1 t15) fun t16 =>
    gd t11 false (ld t16) fun t17 =>
    gd t11 false (lnl t17) fun t18 =>
    gd t11 false (ge .i64 t13 t18) fun t19 =>
    pk t11 (.bool true) t19 fun t20 =>
    cnd t20 (
      rt (.tuple #[(.string ⟨#[]⟩), (.int .i64 7)])
      ) (
      nc t0 fun t22 =>
      fa 1 t22 fun t23 =>
      ld t23 fun t24 =>
      ia 1 t24 t1 fun t26 =>
      ld t26 fun t27 =>
      rt (.tuple #[t27, (.int .i64 0)])
      )
    )
theorem s44 (t0 t1 : Value) (w : World) (Q : Value → World → Prop) (h : f44 t0 t1 w Q) : Calls Tryd.prog 44 #[t0, t1] w (Rt Q) := by
  refine calls_of (l := [t0, t1]) Tryd.func44 rfl Tryd.ntmps44 (Nat.le_of_ble_eq_true rfl) ?_
  unfold f44 at h
  refine wp_seq ?_
  refine L_region ?_
  refine L_as ?_
  refine L_as ?_
  refine L_nil ?_
  refine E_n ?_
  refine wp_seq ?_
  refine C_blk ?_
  refine wp_seq ?_
  refine L_region ?_
  refine L_mv ?_
  refine L_u (P_smr rfl h) ?_
  intro v w h
  refine L_as ?_
  refine L_nil ?_
  refine E_n ?_
  refine C_cnd h (fun h => ?_) (fun h => ?_)
  · refine wp_seq ?_
    refine L_region ?_
    refine L_as ?_
    refine L_as ?_
    refine L_nil ?_
    refine E_n ?_
    refine C_ret ?_
    show bodyPost Tryd.prog Tryd.f44 (Rt Q) .ret _ _
    exact post_tmps (ts := [4, 5]) (.inr rfl) rfl h
  · refine wp_seq ?_
    refine L_region ?_
    refine L_mv ?_
    refine L_u (P_lt h) ?_
    intro v w h
    refine L_mv ?_
    refine L_g (t := 12) h rfl rfl (fun c h => P_mv h c) ?_
    intro v w h
    refine L_g (t := 12) h rfl rfl (fun c h => P_mv h c) ?_
    intro v w h
    refine L_g (t := 12) h rfl rfl (fun c h => P_nc h c) ?_
    intro v w h
    refine L_g (t := 12) h rfl rfl (fun c h => P_fa fo110_1 h c) ?_
    intro v w h
    refine L_g (t := 12) h rfl rfl (fun c h => P_ld sc39 h c) ?_
    intro v w h
    refine L_g (t := 12) h rfl rfl (fun c h => P_lnl is39 h c) ?_
    intro v w h
    refine L_g (t := 12) h rfl rfl (fun c h => P_ge h c) ?_
    intro v w h
    refine L_u (P_pk h) ?_
    intro v w h
    refine L_as ?_
    refine L_nil ?_
    refine E_n ?_
    refine C_cnd h (fun h => ?_) (fun h => ?_)
    · refine wp_seq ?_
      refine L_region ?_
      refine L_as ?_
      refine L_as ?_
      refine L_nil ?_
      refine E_n ?_
      refine C_ret ?_
      show bodyPost Tryd.prog Tryd.f44 (Rt Q) .ret _ _
      exact post_tmps (ts := [4, 5]) (.inr rfl) rfl h
    · refine C_skip ?_
      refine B_n ?_
      refine E_n ?_
      refine wp_seq ?_
      refine L_region ?_
      refine L_mv ?_
      refine L_u (P_nc h) ?_
      intro v w h
      refine L_u (P_fa fo110_1 h) ?_
      intro v w h
      refine L_u (P_ld sc39 h) ?_
      intro v w h
      refine L_mv ?_
      refine L_u (P_ia se39 h) ?_
      intro v w h
      refine L_u (P_ld sc9 h) ?_
      intro v w h
      refine L_as ?_
      refine L_as ?_
      refine L_nil ?_
      refine E_n ?_
      refine C_ret ?_
      show bodyPost Tryd.prog Tryd.f44 (Rt Q) .ret _ _
      exact post_tmps (ts := [4, 5]) (.inr rfl) rfl h

/- (*factotum/cache.ring[factotum/cache.page]).out -/
def f65 (t0 t1 : Value) : M :=
  dr <|
  idv t1 fun t4 =>
  nc t4 fun t5 =>
  fa 0 t5 fun t6 =>
  ld t6 fun t7 =>
  idv t1 fun t8 =>
  nc t8 fun t9 =>
  fa 1 t9 fun t10 =>
  ld t10 fun t11 =>
  idv t1 fun t12 =>
  nc t12 fun t13 =>
  fa 1 t13 fun t14 =>
  ld t14 fun t15 =>
  idv t1 fun t16 =>
  nc t16 fun t17 =>
  fa 0 t17 fun t18 =>
  ld t18 fun t19 =>
  nc t7 fun t20 =>
  fa 1 t20 fun t21 =>
  st t21 t15 <|
  nc t11 fun t22 =>
  fa 0 t22 fun t23 =>
  st t23 t19 <|
  nc t0 fun t25 =>
  fa 4 t25 fun t26 =>
  ld t26 fun t27 =>
  su .i64 t27 (.int .i64 1) fun t28 =>
  nc t0 fun t29 =>
  fa 4 t29 fun t30 =>
  st t30 t28 <|
  rt (.tuple #[])
theorem s65 (t0 t1 : Value) (w : World) (Q : Value → World → Prop) (h : f65 t0 t1 w Q) : Calls Tryd.prog 65 #[t0, t1] w (Rt Q) := by
  refine calls_of (l := [t0, t1]) Tryd.func65 rfl Tryd.ntmps65 (Nat.le_of_ble_eq_true rfl) ?_
  unfold f65 at h
  refine wp_seq ?_
  refine D_region (by decide +kernel) 22 rfl ?_
  replace h := dr_e h
  refine G_p 0 rfl (by decide +kernel) (Y_mv h) ?_
  intro v h
  refine G_p 1 rfl (by decide +kernel) (Y_nc h) ?_
  intro v h
  refine G_p 2 rfl (by decide +kernel) (Y_fa fo95_0 h) ?_
  intro v h
  refine G_r _ 3 rfl (by decide +kernel) (R_ld sc91 h) ?_
  intro v h
  refine G_p 4 rfl (by decide +kernel) (Y_mv h) ?_
  intro v h
  refine G_p 5 rfl (by decide +kernel) (Y_nc h) ?_
  intro v h
  refine G_p 6 rfl (by decide +kernel) (Y_fa fo95_1 h) ?_
  intro v h
  refine G_r _ 7 rfl (by decide +kernel) (R_ld sc91 h) ?_
  intro v h
  refine G_p 8 rfl (by decide +kernel) (Y_mv h) ?_
  intro v h
  refine G_p 9 rfl (by decide +kernel) (Y_nc h) ?_
  intro v h
  refine G_p 10 rfl (by decide +kernel) (Y_fa fo95_1 h) ?_
  intro v h
  refine G_r _ 11 rfl (by decide +kernel) (R_ld sc91 h) ?_
  intro v h
  refine G_p 12 rfl (by decide +kernel) (Y_mv h) ?_
  intro v h
  refine G_p 13 rfl (by decide +kernel) (Y_nc h) ?_
  intro v h
  refine G_p 14 rfl (by decide +kernel) (Y_fa fo95_0 h) ?_
  intro v h
  refine G_r _ 15 rfl (by decide +kernel) (R_ld sc91 h) ?_
  intro v h
  refine G_p 16 rfl (by decide +kernel) (Y_nc h) ?_
  intro v h
  refine G_p 17 rfl (by decide +kernel) (Y_fa fo95_1 h) ?_
  intro v h
  refine G_e 18 rfl (by decide +kernel) (P_st on91 h ?_)
  intro w h
  refine ⟨keepF_dep [15] (by decide +kernel) rfl (keepF_dep [11] (by decide +kernel) rfl (keepF_dep [7] (by decide +kernel) rfl (keepF_dep [3] (by decide +kernel) rfl keepF_nil))), ?_⟩
  refine G_p 19 rfl (by decide +kernel) (Y_nc h) ?_
  intro v h
  refine G_p 20 rfl (by decide +kernel) (Y_fa fo95_0 h) ?_
  intro v h
  refine G_e 21 rfl (by decide +kernel) (P_st on91 h ?_)
  intro w h
  refine ⟨keepF_dep [15] (by decide +kernel) rfl (keepF_dep [11] (by decide +kernel) rfl (keepF_dep [7] (by decide +kernel) rfl (keepF_dep [3] (by decide +kernel) rfl keepF_nil))), ?_⟩
  refine G_done (by decide +kernel) ?_
  refine E_n ?_
  refine L_region ?_
  refine L_mv ?_
  refine L_u (P_nc h) ?_
  intro v w h
  refine L_u (P_fa fo97_1 h) ?_
  intro v w h
  refine L_u (P_ld sc3 h) ?_
  intro v w h
  refine L_u (P_su h) ?_
  intro v w h
  refine L_u (P_nc h) ?_
  intro v w h
  refine L_u (P_fa fo97_1 h) ?_
  intro v w h
  refine L_u (P_st on3 h) ?_
  intro w h
  refine L_nil ?_
  show bodyPost Tryd.prog Tryd.f65 (Rt Q) .normal _ _
  exact post_tmps (ts := []) (.inl rfl) rfl h

/- (*factotum/cache.ring[factotum/cache.page]).first -/
def f93 (t0 t1 : Value) : M :=
  dr <|
  idv t1 fun t4 =>
  idv t1 fun t5 =>
  idv t0 fun t6 =>
  nc t6 fun t7 =>
  fa 0 t7 fun t8 =>
  idv t0 fun t9 =>
  nc t9 fun t10 =>
  fa 0 t10 fun t11 =>
  fa 1 t11 fun t12 =>
  ld t12 fun t13 =>
  nc t4 fun t14 =>
  fa 0 t14 fun t15 =>
  st t15 t8 <|
  nc t5 fun t16 =>
  fa 1 t16 fun t17 =>
  st t17 t13 <|
  dr <|
  idv t1 fun t18 =>
  nc t18 fun t19 =>
  fa 0 t19 fun t20 =>
  ld t20 fun t21 =>
  idv t1 fun t22 =>
  nc t22 fun t23 =>
  fa 1 t23 fun t24 =>
  ld t24 fun t25 =>
  idv t1 fun t26 =>
  idv t1 fun t27 =>
  nc t21 fun t28 =>
  fa 1 t28 fun t29 =>
  st t29 t26 <|
  nc t25 fun t30 =>
  fa 0 t30 fun t31 =>
  st t31 t27 <|
  nc t0 fun t33 =>
  fa 4 t33 fun t34 =>
  ld t34 fun t35 =>
  ad .i64 t35 (.int .i64 1) fun t36 =>
  nc t0 fun t37 =>
  fa 4 t37 fun t38 =>
  st t38 t36 <|
  rt (.tuple #[])
theorem s93 (t0 t1 : Value) (w : World) (Q : Value → World → Prop) (h : f93 t0 t1 w Q) : Calls Tryd.prog 93 #[t0, t1] w (Rt Q) := by
  refine calls_of (l := [t0, t1]) Tryd.func93 rfl Tryd.ntmps93 (Nat.le_of_ble_eq_true rfl) ?_
  unfold f93 at h
  refine wp_seq ?_
  refine D_region (by decide +kernel) 16 rfl ?_
  replace h := dr_e h
  refine G_p 0 rfl (by decide +kernel) (Y_mv h) ?_
  intro v h
  refine G_p 1 rfl (by decide +kernel) (Y_mv h) ?_
  intro v h
  refine G_p 2 rfl (by decide +kernel) (Y_mv h) ?_
  intro v h
  refine G_p 3 rfl (by decide +kernel) (Y_nc h) ?_
  intro v h
  refine G_p 4 rfl (by decide +kernel) (Y_fa fo97_0 h) ?_
  intro v h
  refine G_p 5 rfl (by decide +kernel) (Y_mv h) ?_
  intro v h
  refine G_p 6 rfl (by decide +kernel) (Y_nc h) ?_
  intro v h
  refine G_p 7 rfl (by decide +kernel) (Y_fa fo97_0 h) ?_
  intro v h
  refine G_p 8 rfl (by decide +kernel) (Y_fa fo95_1 h) ?_
  intro v h
  refine G_r _ 9 rfl (by decide +kernel) (R_ld sc91 h) ?_
  intro v h
  refine G_p 10 rfl (by decide +kernel) (Y_nc h) ?_
  intro v h
  refine G_p 11 rfl (by decide +kernel) (Y_fa fo95_0 h) ?_
  intro v h
  refine G_e 12 rfl (by decide +kernel) (P_st on91 h ?_)
  intro w h
  refine ⟨keepF_dep [9] (by decide +kernel) rfl keepF_nil, ?_⟩
  refine G_p 13 rfl (by decide +kernel) (Y_nc h) ?_
  intro v h
  refine G_p 14 rfl (by decide +kernel) (Y_fa fo95_1 h) ?_
  intro v h
  refine G_e 15 rfl (by decide +kernel) (P_st on91 h ?_)
  intro w h
  refine ⟨keepF_dep [9] (by decide +kernel) rfl keepF_nil, ?_⟩
  refine G_done (by decide +kernel) ?_
  refine E_n ?_
  refine wp_seq ?_
  refine D_region (by decide +kernel) 16 rfl ?_
  replace h := dr_e h
  refine G_p 0 rfl (by decide +kernel) (Y_mv h) ?_
  intro v h
  refine G_p 1 rfl (by decide +kernel) (Y_nc h) ?_
  intro v h
  refine G_p 2 rfl (by decide +kernel) (Y_fa fo95_0 h) ?_
  intro v h
  refine G_r _ 3 rfl (by decide +kernel) (R_ld sc91 h) ?_
  intro v h
  refine G_p 4 rfl (by decide +kernel) (Y_mv h) ?_
  intro v h
  refine G_p 5 rfl (by decide +kernel) (Y_nc h) ?_
  intro v h
  refine G_p 6 rfl (by decide +kernel) (Y_fa fo95_1 h) ?_
  intro v h
  refine G_r _ 7 rfl (by decide +kernel) (R_ld sc91 h) ?_
  intro v h
  refine G_p 8 rfl (by decide +kernel) (Y_mv h) ?_
  intro v h
  refine G_p 9 rfl (by decide +kernel) (Y_mv h) ?_
  intro v h
  refine G_p 10 rfl (by decide +kernel) (Y_nc h) ?_
  intro v h
  refine G_p 11 rfl (by decide +kernel) (Y_fa fo95_1 h) ?_
  intro v h
  refine G_e 12 rfl (by decide +kernel) (P_st on91 h ?_)
  intro w h
  refine ⟨keepF_dep [7] (by decide +kernel) rfl (keepF_dep [3] (by decide +kernel) rfl keepF_nil), ?_⟩
  refine G_p 13 rfl (by decide +kernel) (Y_nc h) ?_
  intro v h
  refine G_p 14 rfl (by decide +kernel) (Y_fa fo95_0 h) ?_
  intro v h
  refine G_e 15 rfl (by decide +kernel) (P_st on91 h ?_)
  intro w h
  refine ⟨keepF_dep [7] (by decide +kernel) rfl (keepF_dep [3] (by decide +kernel) rfl keepF_nil), ?_⟩
  refine G_done (by decide +kernel) ?_
  refine E_n ?_
  refine L_region ?_
  refine L_mv ?_
  refine L_u (P_nc h) ?_
  intro v w h
  refine L_u (P_fa fo97_1 h) ?_
  intro v w h
  refine L_u (P_ld sc3 h) ?_
  intro v w h
  refine L_u (P_ad h) ?_
  intro v w h
  refine L_u (P_nc h) ?_
  intro v w h
  refine L_u (P_fa fo97_1 h) ?_
  intro v w h
  refine L_u (P_st on3 h) ?_
  intro w h
  refine L_nil ?_
  show bodyPost Tryd.prog Tryd.f93 (Rt Q) .normal _ _
  exact post_tmps (ts := []) (.inl rfl) rfl h

/- (*factotum/cache.Cache).use -/
def f66 (t0 t1 : Value) : M :=
  nc t0 fun t6 =>
  fa 2 t6 fun t7 =>
  cl (f93 t7 t1) fun t9 =>
  dr <|
  idv t0 fun t10 =>
  nc t10 fun t11 =>
  fa 7 t11 fun t12 =>
  ld t12 fun t13 =>
  idv t1 fun t14 =>
  nc t14 fun t15 =>
  fa 2 t15 fun t16 =>
  fa 0 t16 fun t17 =>
  ld t17 fun t18 =>
  idv t1 fun t19 =>
  smu Tryd.prog (Instr.mapUpdate 90 t13 t18 t19) <|
  dr <|
  idv t0 fun t20 =>
  nc t20 fun t21 =>
  fa 2 t21 fun t22 =>
  fa 4 t22 fun t23 =>
  ld t23 fun t24 =>
  idv t0 fun t25 =>
  nc t25 fun t26 =>
  fa 1 t26 fun t27 =>
  ld t27 fun t28 =>
  gt .i64 t24 t28 fun t29 =>
  cnd t29 (
    nc t0 fun t31 =>
    fa 2 t31 fun t32 =>
    fa 0 t32 fun t33 =>
    fa 0 t33 fun t34 =>
    ld t34 fun t35 =>
    nc t0 fun t37 =>
    fa 2 t37 fun t38 =>
    cl (f65 t38 t35) fun t40 =>
    dr <|
    idv t0 fun t41 =>
    nc t41 fun t42 =>
    fa 7 t42 fun t43 =>
    ld t43 fun t44 =>
    idv t35 fun t45 =>
    nc t45 fun t46 =>
    fa 2 t46 fun t47 =>
    fa 0 t47 fun t48 =>
    ld t48 fun t49 =>
    sm Tryd.prog (Builtin.delete_ #[90, 3] 0 #[t44, t49]) fun _ =>
    rt (.tuple #[])
    ) (
    rt (.tuple #[])
    )
theorem s66 (t0 t1 : Value) (w : World) (Q : Value → World → Prop) (h : f66 t0 t1 w Q) : Calls Tryd.prog 66 #[t0, t1] w (Rt Q) := by
  refine calls_of (l := [t0, t1]) Tryd.func66 rfl Tryd.ntmps66 (Nat.le_of_ble_eq_true rfl) ?_
  unfold f66 at h
  refine wp_seq ?_
  refine L_region ?_
  refine L_mv ?_
  refine L_u (P_nc h) ?_
  intro v w h
  refine L_u (P_fa fo99_2 h) ?_
  intro v w h
  refine L_mv ?_
  refine L_u (N_cl Tryd.func93 rfl nn93 (fun w Q h => s93 _ _ w Q h) h) ?_
  intro v w h
  refine L_nil ?_
  refine E_n ?_
  refine wp_seq ?_
  refine D_region (by decide +kernel) 11 rfl ?_
  replace h := dr_e h
  refine G_p 0 rfl (by decide +kernel) (Y_mv h) ?_
  intro v h
  refine G_p 1 rfl (by decide +kernel) (Y_nc h) ?_
  intro v h
  refine G_p 2 rfl (by decide +kernel) (Y_fa fo99_3 h) ?_
  intro v h
  refine G_r _ 3 rfl (by decide +kernel) (R_ld sc90 h) ?_
  intro v h
  refine G_p 4 rfl (by decide +kernel) (Y_mv h) ?_
  intro v h
  refine G_p 5 rfl (by decide +kernel) (Y_nc h) ?_
  intro v h
  refine G_p 6 rfl (by decide +kernel) (Y_fa fo95_2 h) ?_
  intro v h
  refine G_p 7 rfl (by decide +kernel) (Y_fa fo93_0 h) ?_
  intro v h
  refine G_r _ 8 rfl (by decide +kernel) (R_ld sc3 h) ?_
  intro v h
  refine G_p 9 rfl (by decide +kernel) (Y_mv h) ?_
  intro v h
  refine G_e 10 rfl (by decide +kernel) (P_smu rfl h ?_)
  intro w h
  refine ⟨keepF_dep [8] (by decide +kernel) rfl (keepF_dep [3] (by decide +kernel) rfl keepF_nil), ?_⟩
  refine G_done (by decide +kernel) ?_
  refine E_n ?_
  refine wp_seq ?_
  refine D_region (by decide +kernel) 10 rfl ?_
  replace h := dr_e h
  refine G_p 0 rfl (by decide +kernel) (Y_mv h) ?_
  intro v h
  refine G_p 1 rfl (by decide +kernel) (Y_nc h) ?_
  intro v h
  refine G_p 2 rfl (by decide +kernel) (Y_fa fo99_2 h) ?_
  intro v h
  refine G_p 3 rfl (by decide +kernel) (Y_fa fo97_1 h) ?_
  intro v h
  refine G_r _ 4 rfl (by decide +kernel) (R_ld sc3 h) ?_
  intro v h
  refine G_p 5 rfl (by decide +kernel) (Y_mv h) ?_
  intro v h
  refine G_p 6 rfl (by decide +kernel) (Y_nc h) ?_
  intro v h
  refine G_p 7 rfl (by decide +kernel) (Y_fa fo99_1 h) ?_
  intro v h
  refine G_r _ 8 rfl (by decide +kernel) (R_ld sc3 h) ?_
  intro v h
  refine G_p 9 rfl (by decide +kernel) (Y_gt h) ?_
  intro v h
  refine G_done (by decide +kernel) ?_
  refine E_n ?_
  refine C_cnd h (fun h => ?_) (fun h => ?_)
  · refine wp_seq ?_
    refine L_region ?_
    refine L_mv ?_
    refine L_u (P_nc h) ?_
    intro v w h
    refine L_u (P_fa fo99_2 h) ?_
    intro v w h
    refine L_u (P_fa fo97_0 h) ?_
    intro v w h
    refine L_u (P_fa fo95_0 h) ?_
    intro v w h
    refine L_u (P_ld sc91 h) ?_
    intro v w h
    refine L_as ?_
    refine L_nil ?_
    refine E_n ?_
    refine wp_seq ?_
    refine L_region ?_
    refine L_mv ?_
    refine L_u (P_nc h) ?_
    intro v w h
    refine L_u (P_fa fo99_2 h) ?_
    intro v w h
    refine L_mv ?_
    refine L_u (N_cl Tryd.func65 rfl nn65 (fun w Q h => s65 _ _ w Q h) h) ?_
    intro v w h
    refine L_nil ?_
    refine E_n ?_
    refine D_region (by decide +kernel) 10 rfl ?_
    replace h := dr_e h
    refine G_p 0 rfl (by decide +kernel) (Y_mv h) ?_
    intro v h
    refine G_p 1 rfl (by decide +kernel) (Y_nc h) ?_
    intro v h
    refine G_p 2 rfl (by decide +kernel) (Y_fa fo99_3 h) ?_
    intro v h
    refine G_r _ 3 rfl (by decide +kernel) (R_ld sc90 h) ?_
    intro v h
    refine G_p 4 rfl (by decide +kernel) (Y_mv h) ?_
    intro v h
    refine G_p 5 rfl (by decide +kernel) (Y_nc h) ?_
    intro v h
    refine G_p 6 rfl (by decide +kernel) (Y_fa fo95_2 h) ?_
    intro v h
    refine G_p 7 rfl (by decide +kernel) (Y_fa fo93_0 h) ?_
    intro v h
    refine G_r _ 8 rfl (by decide +kernel) (R_ld sc3 h) ?_
    intro v h
    refine G_e 9 rfl (by decide +kernel) (N_bin rfl h ?_)
    intro w h
    refine ⟨keepF_dep [8] (by decide +kernel) rfl (keepF_dep [3] (by decide +kernel) rfl keepF_nil), ?_⟩
    refine G_done (by decide +kernel) ?_
    show bodyPost Tryd.prog Tryd.f66 (Rt Q) .normal _ _
    exact post_tmps (ts := []) (.inl rfl) rfl h
  · refine C_skip ?_
    show bodyPost Tryd.prog Tryd.f66 (Rt Q) .normal _ _
    exact post_tmps (ts := []) (.inl rfl) rfl h

/- (*factotum/cache.Cache).Read -/
def f32 (t0 t1 : Value) : M :=
  smr Tryd.prog (do eqGuard .eql 47 (.tmp 10) (.const (.pointer none)) t0 (.pointer none); binOp .eql 47 t0 (.pointer none)) fun t11 =>
  cnd t11 (
    rt (.tuple #[(.string ⟨#[]⟩), (.int .i64 1)])
    ) (
    nc t0 fun t14 =>
    fa 7 t14 fun t15 =>
    ld t15 fun t16 =>
    smr Tryd.prog (Instr.lookup 90 t16 t1 true) fun t18 =>
    ex 0 t18 fun t19 =>
    ex 1 t18 fun t20 =>
    cnd t20 (
      nc t0 fun t23 =>
      fa 8 t23 fun t24 =>
      ld t24 fun t25 =>
      ad .i64 t25 (.int .i64 1) fun t26 =>
      nc t0 fun t27 =>
      fa 8 t27 fun t28 =>
      st t28 t26 <|
      nc t0 fun t30 =>
      fa 2 t30 fun t31 =>
      cl (f65 t31 t19) fun t33 =>
      cl (f66 t0 t19) fun t36 =>
      nc t19 fun t38 =>
      fa 2 t38 fun t39 =>
      fa 1 t39 fun t40 =>
      ld t40 fun t41 =>
      rt (.tuple #[t41, (.int .i64 0)])
      ) (
      nc t0 fun t44 =>
      fa 0 t44 fun t45 =>
      ld t45 fun t46 =>
      cl (f44 t46 t1) fun t48 =>
      ex 0 t48 fun t49 =>
      ex 1 t48 fun t50 =>
      nei .i64 t50 (.int .i64 0) fun t52 =>
      cnd t52 (
        rt (.tuple #[(.string ⟨#[]⟩), t50])
        ) (
        nc t0 fun t55 =>
        fa 9 t55 fun t56 =>
        ld t56 fun t57 =>
        ad .i64 t57 (.int .i64 1) fun t58 =>
        nc t0 fun t59 =>
        fa 9 t59 fun t60 =>
        st t60 t58 <|
        smr Tryd.prog (Instr.build 93 #[(0, t1), (1, t49)]) fun t64 =>
        smr Tryd.prog (Instr.build 95 #[(2, t64)]) fun t65 =>
        bx 95 t65 fun t66 =>
        cl (f66 t0 t66) fun t67 =>
        rt (.tuple #[t49, (.int .i64 0)])
        )
      )
    )
theorem s32 (t0 t1 : Value) (w : World) (Q : Value → World → Prop) (h : f32 t0 t1 w Q) : Calls Tryd.prog 32 #[t0, t1] w (Rt Q) := by
  refine calls_of (l := [t0, t1]) Tryd.func32 rfl Tryd.ntmps32 (Nat.le_of_ble_eq_true rfl) ?_
  unfold f32 at h
  refine wp_seq ?_
  refine L_region ?_
  refine L_as ?_
  refine L_as ?_
  refine L_nil ?_
  refine E_n ?_
  refine wp_seq ?_
  refine wp_seq ?_
  refine L_region ?_
  refine L_mv ?_
  refine L_u (P_smr rfl h) ?_
  intro v w h
  refine L_nil ?_
  refine E_n ?_
  refine C_cnd h (fun h => ?_) (fun h => ?_)
  · refine wp_seq ?_
    refine L_region ?_
    refine L_as ?_
    refine L_as ?_
    refine L_nil ?_
    refine E_n ?_
    refine C_ret ?_
    show bodyPost Tryd.prog Tryd.f32 (Rt Q) .ret _ _
    exact post_tmps (ts := [4, 5]) (.inr rfl) rfl h
  · refine C_skip ?_
    refine E_n ?_
    refine wp_seq ?_
    refine wp_seq ?_
    refine L_region ?_
    refine L_mv ?_
    refine L_u (P_nc h) ?_
    intro v w h
    refine L_u (P_fa fo99_3 h) ?_
    intro v w h
    refine L_u (P_ld sc90 h) ?_
    intro v w h
    refine L_mv ?_
    refine L_u (P_smr rfl h) ?_
    intro v w h
    refine L_mv ?_
    refine L_u (P_ex h) ?_
    intro v w h
    refine L_u (P_ex h) ?_
    intro v w h
    refine L_as ?_
    refine L_as ?_
    refine L_nil ?_
    refine E_n ?_
    refine wp_seq ?_
    refine L_region ?_
    refine L_mv ?_
    refine L_nil ?_
    refine E_n ?_
    refine C_cnd h (fun h => ?_) (fun h => ?_)
    · refine wp_seq ?_
      refine L_region ?_
      refine L_mv ?_
      refine L_u (P_nc h) ?_
      intro v w h
      refine L_u (P_fa fo99_4 h) ?_
      intro v w h
      refine L_u (P_ld sc3 h) ?_
      intro v w h
      refine L_u (P_ad h) ?_
      intro v w h
      refine L_u (P_nc h) ?_
      intro v w h
      refine L_u (P_fa fo99_4 h) ?_
      intro v w h
      refine L_u (P_st on3 h) ?_
      intro w h
      refine L_nil ?_
      refine E_n ?_
      refine wp_seq ?_
      refine L_region ?_
      refine L_mv ?_
      refine L_u (P_nc h) ?_
      intro v w h
      refine L_u (P_fa fo99_2 h) ?_
      intro v w h
      refine L_mv ?_
      refine L_u (N_cl Tryd.func65 rfl nn65 (fun w Q h => s65 _ _ w Q h) h) ?_
      intro v w h
      refine L_nil ?_
      refine E_n ?_
      refine wp_seq ?_
      refine L_region ?_
      refine L_mv ?_
      refine L_mv ?_
      refine L_u (N_cl Tryd.func66 rfl nn66 (fun w Q h => s66 _ _ w Q h) h) ?_
      intro v w h
      refine L_nil ?_
      refine E_n ?_
      refine wp_seq ?_
      refine L_region ?_
      refine L_mv ?_
      refine L_u (P_nc h) ?_
      intro v w h
      refine L_u (P_fa fo95_2 h) ?_
      intro v w h
      refine L_u (P_fa fo93_1 h) ?_
      intro v w h
      refine L_u (P_ld sc9 h) ?_
      intro v w h
      refine L_as ?_
      refine L_as ?_
      refine L_nil ?_
      refine E_n ?_
      refine C_ret ?_
      show bodyPost Tryd.prog Tryd.f32 (Rt Q) .ret _ _
      exact post_tmps (ts := [4, 5]) (.inr rfl) rfl h
    · refine C_skip ?_
      refine E_n ?_
      refine wp_seq ?_
      refine L_region ?_
      refine L_mv ?_
      refine L_u (P_nc h) ?_
      intro v w h
      refine L_u (P_fa fo99_0 h) ?_
      intro v w h
      refine L_u (P_ld sc49 h) ?_
      intro v w h
      refine L_mv ?_
      refine L_u (N_cl Tryd.func44 rfl nn44 (fun w Q h => s44 _ _ w Q h) h) ?_
      intro v w h
      refine L_mv ?_
      refine L_u (P_ex h) ?_
      intro v w h
      refine L_u (P_ex h) ?_
      intro v w h
      refine L_as ?_
      refine L_as ?_
      refine L_nil ?_
      refine E_n ?_
      refine wp_seq ?_
      refine wp_seq ?_
      refine L_region ?_
      refine L_mv ?_
      refine L_u (P_nei h) ?_
      intro v w h
      refine L_nil ?_
      refine E_n ?_
      refine C_cnd h (fun h => ?_) (fun h => ?_)
      · refine wp_seq ?_
        refine L_region ?_
        refine L_mv ?_
        refine L_as ?_
        refine L_as ?_
        refine L_nil ?_
        refine E_n ?_
        refine C_ret ?_
        show bodyPost Tryd.prog Tryd.f32 (Rt Q) .ret _ _
        exact post_tmps (ts := [4, 5]) (.inr rfl) rfl h
      · refine C_skip ?_
        refine E_n ?_
        refine wp_seq ?_
        refine L_region ?_
        refine L_mv ?_
        refine L_u (P_nc h) ?_
        intro v w h
        refine L_u (P_fa fo99_5 h) ?_
        intro v w h
        refine L_u (P_ld sc3 h) ?_
        intro v w h
        refine L_u (P_ad h) ?_
        intro v w h
        refine L_u (P_nc h) ?_
        intro v w h
        refine L_u (P_fa fo99_5 h) ?_
        intro v w h
        refine L_u (P_st on3 h) ?_
        intro w h
        refine L_nil ?_
        refine E_n ?_
        refine wp_seq ?_
        refine L_region ?_
        refine L_mv ?_
        refine L_mv ?_
        refine L_mv ?_
        refine L_u (N_bld h) ?_
        intro v w h
        refine L_u (N_bld h) ?_
        intro v w h
        refine L_u (P_bx h) ?_
        intro v w h
        refine L_u (N_cl Tryd.func66 rfl nn66 (fun w Q h => s66 _ _ w Q h) h) ?_
        intro v w h
        refine L_nil ?_
        refine E_n ?_
        refine wp_seq ?_
        refine L_region ?_
        refine L_mv ?_
        refine L_as ?_
        refine L_as ?_
        refine L_nil ?_
        refine E_n ?_
        refine C_ret ?_
        show bodyPost Tryd.prog Tryd.f32 (Rt Q) .ret _ _
        exact post_tmps (ts := [4, 5]) (.inr rfl) rfl h

/- (*factotum/cache.Cache).Kept -/
def f33_b2 (j1 : Value → M) (self2 : Value → Value → Value → M) (t0_1 t3 t4 : Value) : M :=
  nc t0_1 fun t15 =>
  fa 2 t15 fun t16 =>
  fa 0 t16 fun t17 =>
  smr Tryd.prog (do eqGuard .neq 91 (.tmp 13) (.tmp 17) t4 t17; binOp .neq 91 t4 t17) fun t18 =>
  cnd t18 (
    nc t4 fun t25 =>
    fa 2 t25 fun t26 =>
    fa 0 t26 fun t27 =>
    ld t27 fun t28 =>
    sm Tryd.prog (Instr.buildSlice 22 1 #[(0, t28)]) fun t29 =>
    sm Tryd.prog (Builtin.append_ #[22, 22] 22 #[t3, t29]) fun t30 =>
    nc t4 fun t20 =>
    fa 1 t20 fun t21 =>
    ld t21 fun t22 =>
    self2 t0_1 t30 t22
    ) (
    j1 t3
    )
def f33_j1 (t3_1 : Value) : M :=
  rt t3_1
def f33 (t0 : Value) : M :=
  smr Tryd.prog (do eqGuard .eql 47 (.tmp 5) (.const (.pointer none)) t0 (.pointer none); binOp .eql 47 t0 (.pointer none)) fun t6 =>
  cnd t6 (
    rt (.slice none 0 0)
    ) (
    nc t0 fun t8 =>
    fa 2 t8 fun t9 =>
    fa 0 t9 fun t10 =>
    fa 1 t10 fun t11 =>
    ld t11 fun t12 =>
    jn (fun (j1 : Value → M) =>
      lo (fun _ _ _ => bot) (f33_b2 j1) (fun l => l t0 (.slice none 0 0) t12)
      ) (f33_j1)
    )
theorem s33 (t0 : Value) (w : World) (Q : Value → World → Prop) (h : f33 t0 w Q) : Calls Tryd.prog 33 #[t0] w (Rt Q) := by
  refine calls_of (l := [t0]) Tryd.func33 rfl Tryd.ntmps33 (Nat.le_of_ble_eq_true rfl) ?_
  unfold f33 at h
  refine wp_seq ?_
  refine L_region ?_
  refine L_as ?_
  refine L_nil ?_
  refine E_n ?_
  refine wp_seq ?_
  refine wp_seq ?_
  refine L_region ?_
  refine L_mv ?_
  refine L_u (P_smr rfl h) ?_
  intro v w h
  refine L_nil ?_
  refine E_n ?_
  refine C_cnd h (fun h => ?_) (fun h => ?_)
  · refine wp_seq ?_
    refine L_region ?_
    refine L_as ?_
    refine L_nil ?_
    refine E_n ?_
    refine C_ret ?_
    show bodyPost Tryd.prog Tryd.f33 (Rt Q) .ret _ _
    exact post_tmps (ts := [2]) (.inr rfl) rfl h
  · refine C_skip ?_
    refine E_n ?_
    refine wp_seq ?_
    refine L_region ?_
    refine L_as ?_
    refine L_nil ?_
    refine E_n ?_
    refine wp_seq ?_
    refine wp_seq ?_
    refine L_region ?_
    refine L_mv ?_
    refine L_u (P_nc h) ?_
    intro v w h
    refine L_u (P_fa fo99_2 h) ?_
    intro v w h
    refine L_u (P_fa fo97_0 h) ?_
    intro v w h
    refine L_u (P_fa fo95_1 h) ?_
    intro v w h
    refine L_u (P_ld sc91 h) ?_
    intro v w h
    refine L_as ?_
    refine L_nil ?_
    refine E_n ?_
    refine C_join (fun (k : Value → M) (ρ : Nat → Value) => k (ρ 3)) h (fun j1 J1 h => ?_) (fun ρ w h => ?_)
    · refine C_blk ?_
      refine C_lo (fun (l : Value → Value → Value → M) (ρ : Nat → Value) => l (ρ 0) (ρ 3) (ρ 4)) h (fun ρ w h => h) (fun nx self2 L2 ρ w h => ?_)
      unfold f33_b2 at h
      refine wp_seq ?_
      refine wp_seq ?_
      refine L_region ?_
      refine L_mv ?_
      refine L_mv ?_
      refine L_u (P_nc h) ?_
      intro v w h
      refine L_u (P_fa fo99_2 h) ?_
      intro v w h
      refine L_u (P_fa fo97_0 h) ?_
      intro v w h
      refine L_u (P_smr rfl h) ?_
      intro v w h
      refine L_nil ?_
      refine E_n ?_
      refine C_cnd h (fun h => ?_) (fun h => ?_)
      · refine C_skip ?_
        refine E_n ?_
        refine wp_seq ?_
        refine C_blk ?_
        refine L_region ?_
        refine L_mv ?_
        refine L_mv ?_
        refine L_u (P_nc h) ?_
        intro v w h
        refine L_u (P_fa fo95_2 h) ?_
        intro v w h
        refine L_u (P_fa fo93_0 h) ?_
        intro v w h
        refine L_u (P_ld sc3 h) ?_
        intro v w h
        refine L_u (N_bsl h) ?_
        intro v w h
        refine L_u (N_bi rfl h) ?_
        intro v w h
        refine L_as ?_
        refine L_nil ?_
        refine B_n ?_
        refine E_n ?_
        refine L_region ?_
        refine L_mv ?_
        refine L_u (P_nc h) ?_
        intro v w h
        refine L_u (P_fa fo95_1 h) ?_
        intro v w h
        refine L_u (P_ld sc91 h) ?_
        intro v w h
        refine L_as ?_
        refine L_nil ?_
        refine E_n ?_
        exact L2 _ _ h
      · refine C_exit ?_
        refine E_x ?_
        refine E_x ?_
        refine B_x ?_
        exact J1 _ _ h
    · unfold f33_j1 at h
      refine E_n ?_
      refine wp_seq ?_
      refine L_region ?_
      refine L_mv ?_
      refine L_as ?_
      refine L_nil ?_
      refine E_n ?_
      refine C_ret ?_
      show bodyPost Tryd.prog Tryd.f33 (Rt Q) .ret _ _
      exact post_tmps (ts := [2]) (.inr rfl) rfl h

/- (*factotum/cache.Cache).Hits -/
def f34 (t0 : Value) : M :=
  smr Tryd.prog (do eqGuard .eql 47 (.tmp 3) (.const (.pointer none)) t0 (.pointer none); binOp .eql 47 t0 (.pointer none)) fun t4 =>
  cnd t4 (
    rt (.int .i64 0)
    ) (
    nc t0 fun t6 =>
    fa 8 t6 fun t7 =>
    ld t7 fun t8 =>
    rt t8
    )
theorem s34 (t0 : Value) (w : World) (Q : Value → World → Prop) (h : f34 t0 w Q) : Calls Tryd.prog 34 #[t0] w (Rt Q) := by
  refine calls_of (l := [t0]) Tryd.func34 rfl Tryd.ntmps34 (Nat.le_of_ble_eq_true rfl) ?_
  unfold f34 at h
  refine wp_seq ?_
  refine L_region ?_
  refine L_as ?_
  refine L_nil ?_
  refine E_n ?_
  refine wp_seq ?_
  refine wp_seq ?_
  refine L_region ?_
  refine L_mv ?_
  refine L_u (P_smr rfl h) ?_
  intro v w h
  refine L_nil ?_
  refine E_n ?_
  refine C_cnd h (fun h => ?_) (fun h => ?_)
  · refine wp_seq ?_
    refine L_region ?_
    refine L_as ?_
    refine L_nil ?_
    refine E_n ?_
    refine C_ret ?_
    show bodyPost Tryd.prog Tryd.f34 (Rt Q) .ret _ _
    exact post_tmps (ts := [2]) (.inr rfl) rfl h
  · refine C_skip ?_
    refine E_n ?_
    refine wp_seq ?_
    refine L_region ?_
    refine L_mv ?_
    refine L_u (P_nc h) ?_
    intro v w h
    refine L_u (P_fa fo99_4 h) ?_
    intro v w h
    refine L_u (P_ld sc3 h) ?_
    intro v w h
    refine L_as ?_
    refine L_nil ?_
    refine E_n ?_
    refine C_ret ?_
    show bodyPost Tryd.prog Tryd.f34 (Rt Q) .ret _ _
    exact post_tmps (ts := [2]) (.inr rfl) rfl h

/- (*factotum/cache.Cache).Misses -/
def f35 (t0 : Value) : M :=
  smr Tryd.prog (do eqGuard .eql 47 (.tmp 3) (.const (.pointer none)) t0 (.pointer none); binOp .eql 47 t0 (.pointer none)) fun t4 =>
  cnd t4 (
    rt (.int .i64 0)
    ) (
    nc t0 fun t6 =>
    fa 9 t6 fun t7 =>
    ld t7 fun t8 =>
    rt t8
    )
theorem s35 (t0 : Value) (w : World) (Q : Value → World → Prop) (h : f35 t0 w Q) : Calls Tryd.prog 35 #[t0] w (Rt Q) := by
  refine calls_of (l := [t0]) Tryd.func35 rfl Tryd.ntmps35 (Nat.le_of_ble_eq_true rfl) ?_
  unfold f35 at h
  refine wp_seq ?_
  refine L_region ?_
  refine L_as ?_
  refine L_nil ?_
  refine E_n ?_
  refine wp_seq ?_
  refine wp_seq ?_
  refine L_region ?_
  refine L_mv ?_
  refine L_u (P_smr rfl h) ?_
  intro v w h
  refine L_nil ?_
  refine E_n ?_
  refine C_cnd h (fun h => ?_) (fun h => ?_)
  · refine wp_seq ?_
    refine L_region ?_
    refine L_as ?_
    refine L_nil ?_
    refine E_n ?_
    refine C_ret ?_
    show bodyPost Tryd.prog Tryd.f35 (Rt Q) .ret _ _
    exact post_tmps (ts := [2]) (.inr rfl) rfl h
  · refine C_skip ?_
    refine E_n ?_
    refine wp_seq ?_
    refine L_region ?_
    refine L_mv ?_
    refine L_u (P_nc h) ?_
    intro v w h
    refine L_u (P_fa fo99_5 h) ?_
    intro v w h
    refine L_u (P_ld sc3 h) ?_
    intro v w h
    refine L_as ?_
    refine L_nil ?_
    refine E_n ?_
    refine C_ret ?_
    show bodyPost Tryd.prog Tryd.f35 (Rt Q) .ret _ _
    exact post_tmps (ts := [2]) (.inr rfl) rfl h

/- (*factotum/pager.Pager).Size -/
def f46 (t0 : Value) : M :=
  smr Tryd.prog (do eqGuard .eql 49 (.tmp 3) (.const (.pointer none)) t0 (.pointer none); binOp .eql 49 t0 (.pointer none)) fun t4 =>
  cnd t4 (
    rt (.int .i64 0)
    ) (
    nc t0 fun t6 =>
    fa 1 t6 fun t7 =>
    ld t7 fun t8 =>
    lnl t8 fun t9 =>
    rt t9
    )
theorem s46 (t0 : Value) (w : World) (Q : Value → World → Prop) (h : f46 t0 w Q) : Calls Tryd.prog 46 #[t0] w (Rt Q) := by
  refine calls_of (l := [t0]) Tryd.func46 rfl Tryd.ntmps46 (Nat.le_of_ble_eq_true rfl) ?_
  unfold f46 at h
  refine wp_seq ?_
  refine L_region ?_
  refine L_as ?_
  refine L_nil ?_
  refine E_n ?_
  refine wp_seq ?_
  refine wp_seq ?_
  refine L_region ?_
  refine L_mv ?_
  refine L_u (P_smr rfl h) ?_
  intro v w h
  refine L_nil ?_
  refine E_n ?_
  refine C_cnd h (fun h => ?_) (fun h => ?_)
  · refine wp_seq ?_
    refine L_region ?_
    refine L_as ?_
    refine L_nil ?_
    refine E_n ?_
    refine C_ret ?_
    show bodyPost Tryd.prog Tryd.f46 (Rt Q) .ret _ _
    exact post_tmps (ts := [2]) (.inr rfl) rfl h
  · refine C_skip ?_
    refine E_n ?_
    refine wp_seq ?_
    refine L_region ?_
    refine L_mv ?_
    refine L_u (P_nc h) ?_
    intro v w h
    refine L_u (P_fa fo110_1 h) ?_
    intro v w h
    refine L_u (P_ld sc39 h) ?_
    intro v w h
    refine L_u (P_lnl is39 h) ?_
    intro v w h
    refine L_as ?_
    refine L_nil ?_
    refine E_n ?_
    refine C_ret ?_
    show bodyPost Tryd.prog Tryd.f46 (Rt Q) .ret _ _
    exact post_tmps (ts := [2]) (.inr rfl) rfl h

/- (*factotum/cache.Cache).Pages -/
def f63 (t0 : Value) : M :=
  smr Tryd.prog (do eqGuard .eql 47 (.tmp 3) (.const (.pointer none)) t0 (.pointer none); binOp .eql 47 t0 (.pointer none)) fun t4 =>
  cnd t4 (
    rt (.int .i64 0)
    ) (
    nc t0 fun t6 =>
    fa 0 t6 fun t7 =>
    ld t7 fun t8 =>
    cl (f46 t8) fun t9 =>
    rt t9
    )
theorem s63 (t0 : Value) (w : World) (Q : Value → World → Prop) (h : f63 t0 w Q) : Calls Tryd.prog 63 #[t0] w (Rt Q) := by
  refine calls_of (l := [t0]) Tryd.func63 rfl Tryd.ntmps63 (Nat.le_of_ble_eq_true rfl) ?_
  unfold f63 at h
  refine wp_seq ?_
  refine L_region ?_
  refine L_as ?_
  refine L_nil ?_
  refine E_n ?_
  refine wp_seq ?_
  refine wp_seq ?_
  refine L_region ?_
  refine L_mv ?_
  refine L_u (P_smr rfl h) ?_
  intro v w h
  refine L_nil ?_
  refine E_n ?_
  refine C_cnd h (fun h => ?_) (fun h => ?_)
  · refine wp_seq ?_
    refine L_region ?_
    refine L_as ?_
    refine L_nil ?_
    refine E_n ?_
    refine C_ret ?_
    show bodyPost Tryd.prog Tryd.f63 (Rt Q) .ret _ _
    exact post_tmps (ts := [2]) (.inr rfl) rfl h
  · refine C_skip ?_
    refine E_n ?_
    refine wp_seq ?_
    refine L_region ?_
    refine L_mv ?_
    refine L_u (P_nc h) ?_
    intro v w h
    refine L_u (P_fa fo99_0 h) ?_
    intro v w h
    refine L_u (P_ld sc49 h) ?_
    intro v w h
    refine L_u (N_cl Tryd.func46 rfl nn46 (fun w Q h => s46 _ w Q h) h) ?_
    intro v w h
    refine L_as ?_
    refine L_nil ?_
    refine E_n ?_
    refine C_ret ?_
    show bodyPost Tryd.prog Tryd.f63 (Rt Q) .ret _ _
    exact post_tmps (ts := [2]) (.inr rfl) rfl h

/- factotum/factotumlaw07.lives -/
def f28_b2 (j1 : Value → M) (self2 : Value → Value → Value → M) (t1 t2 t3 : Value) : M :=
  lnl t2 fun t13 =>
  lt .i64 t3 t13 fun t14 =>
  cnd t14 (
    ia 1 t2 t3 fun t21 =>
    ld t21 fun t22 =>
    cl (f32 t1 t22) fun t23 =>
    ex 0 t23 fun t24 =>
    ex 1 t23 fun t25 =>
    nei .i64 t25 (.int .i64 0) fun t27 =>
    gd t27 false (idv t24) fun t29 =>
    gd t27 false (lns t29) fun t30 =>
    gd t27 false (nei .i64 t30 (.int .i64 256)) fun t31 =>
    pk t27 (.bool true) t31 fun t32 =>
    cnd t32 (
      rt (.bool false)
      ) (
      ad .i64 t3 (.int .i64 1) fun t16 =>
      self2 t1 t2 t16
      )
    ) (
    j1 t1
    )
def f28_j1 (t1_1 : Value) : M :=
  cl (f34 t1_1) fun t34 =>
  eqi .i64 t34 (.int .i64 2) fun t35 =>
  gd t35 true (idv t1_1) fun t37 =>
  gd t35 true (cl (f35 t37)) fun t38 =>
  gd t35 true (eqi .i64 t38 (.int .i64 3)) fun t39 =>
  pk t35 t39 (.bool false) fun t40 =>
  gd t40 true (idv t1_1) fun t42 =>
  gd t40 true (cl (f33 t42)) fun t43 =>
  gd t40 true (sm Tryd.prog (Instr.buildSlice 22 2 #[(0, (.int .i64 1)), (1, (.int .i64 3))])) fun t44 =>
  gd t40 true (cl (f17 t43 t44)) fun t45 =>
  pk t40 t45 (.bool false) fun t46 =>
  gd t46 true (idv t1_1) fun t48 =>
  gd t46 true (cl (f63 t48)) fun t49 =>
  gd t46 true (eqi .i64 t49 (.int .i64 4)) fun t50 =>
  pk t46 t50 (.bool false) fun t51 =>
  rt t51
def f28 : M :=
  cl (f31 (.int .i64 4)) fun t6 =>
  cl (f30 t6 (.int .i64 2)) fun t7 =>
  smr Tryd.prog (do eqGuard .eql 47 (.tmp 8) (.const (.pointer none)) t7 (.pointer none); binOp .eql 47 t7 (.pointer none)) fun t9 =>
  cnd t9 (
    rt (.bool false)
    ) (
    sm Tryd.prog (Instr.buildSlice 22 5 #[(0, (.int .i64 1)), (1, (.int .i64 2)), (2, (.int .i64 1)), (3, (.int .i64 3)), (4, (.int .i64 1))]) fun t10 =>
    jn (fun (j1 : Value → M) =>
      lo (fun _ _ _ => bot) (f28_b2 j1) (fun l => l t7 t10 (.int .i64 0))
      ) (f28_j1)
    )
theorem s28 (w : World) (Q : Value → World → Prop) (h : f28 w Q) : Calls Tryd.prog 28 #[] w (Rt Q) := by
  refine calls_of (l := []) Tryd.func28 rfl Tryd.ntmps28 (Nat.le_of_ble_eq_true rfl) ?_
  unfold f28 at h
  refine wp_seq ?_
  refine L_region ?_
  refine L_as ?_
  refine L_nil ?_
  refine E_n ?_
  refine wp_seq ?_
  refine L_region ?_
  refine L_u (N_cl Tryd.func31 rfl nn31 (fun w Q h => s31 _ w Q h) h) ?_
  intro v w h
  refine L_u (N_cl Tryd.func30 rfl nn30 (fun w Q h => s30 _ _ w Q h) h) ?_
  intro v w h
  refine L_as ?_
  refine L_nil ?_
  refine E_n ?_
  refine wp_seq ?_
  refine wp_seq ?_
  refine L_region ?_
  refine L_mv ?_
  refine L_u (P_smr rfl h) ?_
  intro v w h
  refine L_nil ?_
  refine E_n ?_
  refine C_cnd h (fun h => ?_) (fun h => ?_)
  · refine wp_seq ?_
    refine L_region ?_
    refine L_as ?_
    refine L_nil ?_
    refine E_n ?_
    refine C_ret ?_
    show bodyPost Tryd.prog Tryd.f28 (Rt Q) .ret _ _
    exact post_tmps (ts := [0]) (.inr rfl) rfl h
  · refine C_skip ?_
    refine E_n ?_
    refine wp_seq ?_
    refine L_region ?_
    refine L_u (N_bsl h) ?_
    intro v w h
    refine L_as ?_
    refine L_nil ?_
    refine E_n ?_
    refine wp_seq ?_
    refine wp_seq ?_
    refine L_region ?_
    refine L_as ?_
    refine L_nil ?_
    refine E_n ?_
    refine C_join (fun (k : Value → M) (ρ : Nat → Value) => k (ρ 1)) h (fun j1 J1 h => ?_) (fun ρ w h => ?_)
    · refine C_blk ?_
      refine C_lo (fun (l : Value → Value → Value → M) (ρ : Nat → Value) => l (ρ 1) (ρ 2) (ρ 3)) h (fun ρ w h => h) (fun nx self2 L2 ρ w h => ?_)
      unfold f28_b2 at h
      refine wp_seq ?_
      refine wp_seq ?_
      refine L_region ?_
      refine L_mv ?_
      refine L_mv ?_
      refine L_u (P_lnl is22 h) ?_
      intro v w h
      refine L_u (P_lt h) ?_
      intro v w h
      refine L_nil ?_
      refine E_n ?_
      refine C_cnd h (fun h => ?_) (fun h => ?_)
      · refine C_skip ?_
        refine E_n ?_
        refine wp_seq ?_
        refine C_blk ?_
        refine wp_seq ?_
        refine L_region ?_
        refine L_mv ?_
        refine L_mv ?_
        refine L_mv ?_
        refine L_u (P_ia se22 h) ?_
        intro v w h
        refine L_u (P_ld sc3 h) ?_
        intro v w h
        refine L_u (N_cl Tryd.func32 rfl nn32 (fun w Q h => s32 _ _ w Q h) h) ?_
        intro v w h
        refine L_mv ?_
        refine L_u (P_ex h) ?_
        intro v w h
        refine L_u (P_ex h) ?_
        intro v w h
        refine L_as ?_
        refine L_as ?_
        refine L_nil ?_
        refine E_n ?_
        refine wp_seq ?_
        refine L_region ?_
        refine L_mv ?_
        refine L_u (P_nei h) ?_
        intro v w h
        refine L_mv ?_
        refine L_g (t := 28) h rfl rfl (fun c h => P_mv h c) ?_
        intro v w h
        refine L_g (t := 28) h rfl rfl (fun c h => P_lns st9 h c) ?_
        intro v w h
        refine L_g (t := 28) h rfl rfl (fun c h => P_nei h c) ?_
        intro v w h
        refine L_u (P_pk h) ?_
        intro v w h
        refine L_nil ?_
        refine E_n ?_
        refine C_cnd h (fun h => ?_) (fun h => ?_)
        · refine wp_seq ?_
          refine L_region ?_
          refine L_as ?_
          refine L_nil ?_
          refine E_n ?_
          refine C_ret ?_
          show bodyPost Tryd.prog Tryd.f28 (Rt Q) .ret _ _
          exact post_tmps (ts := [0]) (.inr rfl) rfl h
        · refine C_skip ?_
          refine B_n ?_
          refine E_n ?_
          refine L_region ?_
          refine L_mv ?_
          refine L_u (P_ad h) ?_
          intro v w h
          refine L_as ?_
          refine L_nil ?_
          refine E_n ?_
          exact L2 _ _ h
      · refine C_exit ?_
        refine E_x ?_
        refine E_x ?_
        refine B_x ?_
        exact J1 _ _ h
    · unfold f28_j1 at h
      refine E_n ?_
      refine wp_seq ?_
      refine L_region ?_
      refine L_mv ?_
      refine L_u (N_cl Tryd.func34 rfl nn34 (fun w Q h => s34 _ w Q h) h) ?_
      intro v w h
      refine L_u (P_eqi h) ?_
      intro v w h
      refine L_mv ?_
      refine L_g (t := 36) h rfl rfl (fun c h => P_mv h c) ?_
      intro v w h
      refine L_g (t := 36) h rfl rfl (fun c h => N_cl Tryd.func35 rfl nn35 (fun w Q h => s35 _ w Q h) h c) ?_
      intro v w h
      refine L_g (t := 36) h rfl rfl (fun c h => P_eqi h c) ?_
      intro v w h
      refine L_u (P_pk h) ?_
      intro v w h
      refine L_mv ?_
      refine L_g (t := 41) h rfl rfl (fun c h => P_mv h c) ?_
      intro v w h
      refine L_g (t := 41) h rfl rfl (fun c h => N_cl Tryd.func33 rfl nn33 (fun w Q h => s33 _ w Q h) h c) ?_
      intro v w h
      refine L_g (t := 41) h rfl rfl (fun c h => N_bsl h c) ?_
      intro v w h
      refine L_g (t := 41) h rfl rfl (fun c h => N_cl Tryd.func17 rfl nn17 (fun w Q h => s17 _ _ w Q h) h c) ?_
      intro v w h
      refine L_u (P_pk h) ?_
      intro v w h
      refine L_mv ?_
      refine L_g (t := 47) h rfl rfl (fun c h => P_mv h c) ?_
      intro v w h
      refine L_g (t := 47) h rfl rfl (fun c h => N_cl Tryd.func63 rfl nn63 (fun w Q h => s63 _ w Q h) h c) ?_
      intro v w h
      refine L_g (t := 47) h rfl rfl (fun c h => P_eqi h c) ?_
      intro v w h
      refine L_u (P_pk h) ?_
      intro v w h
      refine L_as ?_
      refine L_nil ?_
      refine E_n ?_
      refine C_ret ?_
      show bodyPost Tryd.prog Tryd.f28 (Rt Q) .ret _ _
      exact post_tmps (ts := [0]) (.inr rfl) rfl h

/- factotum/factotumlaw07.early -/
def f29 (t0 : Value) : M :=
  lnl t0 fun t5 =>
  mnm t5 (.int .i64 300) fun t6 =>
  sll 3 t0 none (some t6) fun t7 =>
  rt t7
theorem s29 (t0 : Value) (w : World) (Q : Value → World → Prop) (h : f29 t0 w Q) : Calls Tryd.prog 29 #[t0] w (Rt Q) := by
  refine calls_of (l := [t0]) Tryd.func29 rfl Tryd.ntmps29 (Nat.le_of_ble_eq_true rfl) ?_
  unfold f29 at h
  refine wp_seq ?_
  refine L_region ?_
  refine L_as ?_
  refine L_nil ?_
  refine E_n ?_
  refine wp_seq ?_
  refine L_region ?_
  refine L_mv ?_
  refine L_mv ?_
  refine L_u (P_lnl is45 h) ?_
  intro v w h
  refine L_u (P_mnm (t := 0) h) ?_
  intro v w h
  refine L_u (P_sll se45 h) ?_
  intro v w h
  refine L_as ?_
  refine L_nil ?_
  refine E_n ?_
  refine C_ret ?_
  show bodyPost Tryd.prog Tryd.f29 (Rt Q) .ret _ _
  exact post_tmps (ts := [2]) (.inr rfl) rfl h

/- factotum/factotumlaw07.CacheSize -/
def f8_b6 (j5 : Value → Value → Value → Value → Value → Value → M) (self6 : Value → Value → Value → Value → Value → Value → Value → M) (t1_3 t2_3 t7_2 t8_2 t11_1 t12_1 t13 : Value) : M :=
  lt .i64 t13 t12_1 fun t83 =>
  cnd t83 (
    dr <|
    idv t11_1 fun t86 =>
    idv t13 fun t87 =>
    ia 1 t86 t87 fun t88 =>
    ld t88 fun t89 =>
    idv t11_1 fun t90 =>
    idv t12_1 fun t91 =>
    ia 1 t90 t91 fun t92 =>
    ld t92 fun t93 =>
    eqi .i64 t89 t93 fun t94 =>
    cnd t94 (
      rt (.bool false)
      ) (
      ad .i64 t13 (.int .i64 1) fun t85 =>
      self6 t1_3 t2_3 t7_2 t8_2 t11_1 t12_1 t85
      )
    ) (
    j5 t1_3 t2_3 t7_2 t8_2 t11_1 t12_1
    )
def f8_j5 (self4 : Value → Value → Value → Value → Value → Value → M) (t1_4 t2_4 t7_3 t8_3 t11_2 t12_2 : Value) : M :=
  ad .i64 t12_2 (.int .i64 1) fun t80 =>
  self4 t1_4 t2_4 t7_3 t8_3 t11_2 t80
def f8_b4 (j3 : Value → Value → Value → Value → M) (self4 : Value → Value → Value → Value → Value → Value → M) (t1_2 t2_2 t7_1 t8_1 t11 t12 : Value) : M :=
  lnl t11 fun t77 =>
  lt .i64 t12 t77 fun t78 =>
  cnd t78 (
    jn (fun (j5 : Value → Value → Value → Value → Value → Value → M) =>
      lo (fun _ _ _ _ _ _ _ => bot) (f8_b6 j5) (fun l => l t1_2 t2_2 t7_1 t8_1 t11 t12 (.int .i64 0))
      ) (f8_j5 self4)
    ) (
    j3 t1_2 t2_2 t7_1 t8_1
    )
def f8_j3 (self2 : Value → Value → Value → Value → M) (t1_5 t2_5 t7_4 t8_4 : Value) : M :=
  ad .i64 t8_4 (.int .i64 1) fun t32 =>
  self2 t1_5 t2_5 t7_4 t32
def f8_b2 (j1 : M) (self2 : Value → Value → Value → Value → M) (t1_1 t2_1 t7 t8 : Value) : M :=
  lnl t2_1 fun t29 =>
  lt .i64 t8 t29 fun t30 =>
  cnd t30 (
    ia 3 t2_1 t8 fun t37 =>
    fa 0 t37 fun t38 =>
    ld t38 fun t39 =>
    cl (f32 t7 t39) fun t40 =>
    ex 0 t40 fun t41 =>
    ex 1 t40 fun t42 =>
    cl (f33 t7) fun t44 =>
    dr <|
    idv t44 fun t45 =>
    lnl t45 fun t46 =>
    idv t1_1 fun t47 =>
    mxm t47 (.int .i64 0) fun t48 =>
    mnm t48 (.int .i64 64) fun t49 =>
    gt .i64 t46 t49 fun t50 =>
    idv t50 fun t51 =>
    gd t51 false (idv t42) fun t52 =>
    gd t51 false (eqi .i64 t52 (.int .i64 0)) fun t53 =>
    gd t51 false (idv t53) fun t54 =>
    gd t54 true (idv t1_1) fun t55 =>
    gd t54 true (gt .i64 t55 (.int .i64 0)) fun t56 =>
    gd t51 false (pk t54 t56 (.bool false)) fun t57 =>
    gd t51 false (idv t57) fun t58 =>
    gd t58 true (idv t44) fun t59 =>
    gd t58 true (lnl t59) fun t60 =>
    gd t58 true (eqi .i64 t60 (.int .i64 0)) fun t61 =>
    gd t58 true (idv t61) fun t62 =>
    gd t62 false (idv t44) fun t63 =>
    gd t62 false (ia 1 t63 (.int .i64 0)) fun t64 =>
    gd t62 false (ld t64) fun t65 =>
    gd t62 false (idv t2_1) fun t66 =>
    gd t62 false (idv t8) fun t67 =>
    gd t62 false (ia 3 t66 t67) fun t68 =>
    gd t62 false (fa 0 t68) fun t69 =>
    gd t62 false (ld t69) fun t70 =>
    gd t62 false (nei .i64 t65 t70) fun t71 =>
    gd t58 true (pk t62 (.bool true) t71) fun t72 =>
    gd t51 false (pk t58 t72 (.bool false)) fun t73 =>
    pk t51 (.bool true) t73 fun t74 =>
    cnd t74 (
      rt (.bool false)
      ) (
      jn (fun (j3 : Value → Value → Value → Value → M) =>
        lo (fun _ _ _ _ _ _ => bot) (f8_b4 j3) (fun l => l t1_1 t2_1 t7 t8 t44 (.int .i64 0))
        ) (f8_j3 self2)
      )
    ) (
    j1
    )
def f8_j1 : M :=
  rt (.bool true)
def f8 (t0 t1 t2 : Value) : M :=
  cl (f28) fun t14 =>
  nt t14 fun t15 =>
  cnd t15 (
    rt (.bool false)
    ) (
    cv .u64 t0 fun t17 =>
    re .u64 t17 (.int .u64 30) fun t18 =>
    cv .i64 t18 fun t19 =>
    ad .i64 (.int .i64 1) t19 fun t20 =>
    cl (f29 t2) fun t22 =>
    cl (f31 t20) fun t24 =>
    cl (f30 t24 t1) fun t26 =>
    jn (fun (j1 : M) =>
      lo (fun _ _ _ _ => bot) (f8_b2 j1) (fun l => l t1 t22 t26 (.int .i64 0))
      ) (f8_j1)
    )
theorem s8 (t0 t1 t2 : Value) (w : World) (Q : Value → World → Prop) (h : f8 t0 t1 t2 w Q) : Calls Tryd.prog 8 #[t0, t1, t2] w (Rt Q) := by
  refine calls_of (l := [t0, t1, t2]) Tryd.func8 rfl Tryd.ntmps8 (Nat.le_of_ble_eq_true rfl) ?_
  unfold f8 at h
  refine wp_seq ?_
  refine L_region ?_
  refine L_as ?_
  refine L_nil ?_
  refine E_n ?_
  refine wp_seq ?_
  refine wp_seq ?_
  refine L_region ?_
  refine L_u (N_cl Tryd.func28 rfl nn28 (fun w Q h => s28 w Q h) h) ?_
  intro v w h
  refine L_u (P_nt h) ?_
  intro v w h
  refine L_nil ?_
  refine E_n ?_
  refine C_cnd h (fun h => ?_) (fun h => ?_)
  · refine wp_seq ?_
    refine L_region ?_
    refine L_as ?_
    refine L_nil ?_
    refine E_n ?_
    refine C_ret ?_
    show bodyPost Tryd.prog Tryd.f8 (Rt Q) .ret _ _
    exact post_tmps (ts := [6]) (.inr rfl) rfl h
  · refine C_skip ?_
    refine E_n ?_
    refine wp_seq ?_
    refine L_region ?_
    refine L_mv ?_
    refine L_u (P_cv ai3 in33 h) ?_
    intro v w h
    refine L_u (P_re h) ?_
    intro v w h
    refine L_u (P_cv ai33 in3 h) ?_
    intro v w h
    refine L_u (P_ad h) ?_
    intro v w h
    refine L_as ?_
    refine L_nil ?_
    refine E_n ?_
    refine wp_seq ?_
    refine L_region ?_
    refine L_mv ?_
    refine L_u (N_cl Tryd.func29 rfl nn29 (fun w Q h => s29 _ w Q h) h) ?_
    intro v w h
    refine L_as ?_
    refine L_nil ?_
    refine E_n ?_
    refine wp_seq ?_
    refine L_region ?_
    refine L_mv ?_
    refine L_u (N_cl Tryd.func31 rfl nn31 (fun w Q h => s31 _ w Q h) h) ?_
    intro v w h
    refine L_mv ?_
    refine L_u (N_cl Tryd.func30 rfl nn30 (fun w Q h => s30 _ _ w Q h) h) ?_
    intro v w h
    refine L_as ?_
    refine L_nil ?_
    refine E_n ?_
    refine wp_seq ?_
    refine wp_seq ?_
    refine L_region ?_
    refine L_as ?_
    refine L_nil ?_
    refine E_n ?_
    refine C_join (fun (k : M) (ρ : Nat → Value) => k) h (fun j1 J1 h => ?_) (fun ρ w h => ?_)
    · refine C_blk ?_
      refine C_lo (fun (l : Value → Value → Value → Value → M) (ρ : Nat → Value) => l (ρ 1) (ρ 2) (ρ 7) (ρ 8)) h (fun ρ w h => h) (fun nx self2 L2 ρ w h => ?_)
      unfold f8_b2 at h
      refine wp_seq ?_
      refine wp_seq ?_
      refine L_region ?_
      refine L_mv ?_
      refine L_mv ?_
      refine L_u (P_lnl is45 h) ?_
      intro v w h
      refine L_u (P_lt h) ?_
      intro v w h
      refine L_nil ?_
      refine E_n ?_
      refine C_cnd h (fun h => ?_) (fun h => ?_)
      · refine C_skip ?_
        refine E_n ?_
        refine wp_seq ?_
        refine C_blk ?_
        refine wp_seq ?_
        refine L_region ?_
        refine L_mv ?_
        refine L_mv ?_
        refine L_mv ?_
        refine L_u (P_ia se45 h) ?_
        intro v w h
        refine L_u (P_fa fo53_0 h) ?_
        intro v w h
        refine L_u (P_ld sc3 h) ?_
        intro v w h
        refine L_u (N_cl Tryd.func32 rfl nn32 (fun w Q h => s32 _ _ w Q h) h) ?_
        intro v w h
        refine L_mv ?_
        refine L_u (P_ex h) ?_
        intro v w h
        refine L_u (P_ex h) ?_
        intro v w h
        refine L_as ?_
        refine L_as ?_
        refine L_nil ?_
        refine E_n ?_
        refine wp_seq ?_
        refine L_region ?_
        refine L_mv ?_
        refine L_u (N_cl Tryd.func33 rfl nn33 (fun w Q h => s33 _ w Q h) h) ?_
        intro v w h
        refine L_as ?_
        refine L_nil ?_
        refine E_n ?_
        refine wp_seq ?_
        refine wp_seq ?_
        refine D_region (by decide +kernel) 30 rfl ?_
        replace h := dr_e h
        refine G_p 0 rfl (by decide +kernel) (Y_mv h) ?_
        intro v h
        refine G_p 1 rfl (by decide +kernel) (Y_lnl is22 h) ?_
        intro v h
        refine G_p 2 rfl (by decide +kernel) (Y_mv h) ?_
        intro v h
        refine G_p 3 rfl (by decide +kernel) (Y_mxm (t := 0) h) ?_
        intro v h
        refine G_p 4 rfl (by decide +kernel) (Y_mnm (t := 0) h) ?_
        intro v h
        refine G_p 5 rfl (by decide +kernel) (Y_gt h) ?_
        intro v h
        refine G_p 6 rfl (by decide +kernel) (Y_mv h) ?_
        intro v h
        refine G_pg (t := 51) 7 rfl (by decide +kernel) h rfl rfl (fun h => Y_mv h) ?_
        intro v h
        refine G_pg (t := 51) 8 rfl (by decide +kernel) h rfl rfl (fun h => Y_eqi h) ?_
        intro v h
        refine G_pg (t := 51) 9 rfl (by decide +kernel) h rfl rfl (fun h => Y_mv h) ?_
        intro v h
        refine G_pg (t := 54) 10 rfl (by decide +kernel) h rfl rfl (fun h => Y_mv h) ?_
        intro v h
        refine G_pg (t := 54) 11 rfl (by decide +kernel) h rfl rfl (fun h => Y_gt h) ?_
        intro v h
        refine G_pg (t := 51) 12 rfl (by decide +kernel) h rfl rfl (fun h => Y_pk h) ?_
        intro v h
        refine G_pg (t := 51) 13 rfl (by decide +kernel) h rfl rfl (fun h => Y_mv h) ?_
        intro v h
        refine G_pg (t := 58) 14 rfl (by decide +kernel) h rfl rfl (fun h => Y_mv h) ?_
        intro v h
        refine G_pg (t := 58) 15 rfl (by decide +kernel) h rfl rfl (fun h => Y_lnl is22 h) ?_
        intro v h
        refine G_pg (t := 58) 16 rfl (by decide +kernel) h rfl rfl (fun h => Y_eqi h) ?_
        intro v h
        refine G_pg (t := 58) 17 rfl (by decide +kernel) h rfl rfl (fun h => Y_mv h) ?_
        intro v h
        refine G_pg (t := 62) 18 rfl (by decide +kernel) h rfl rfl (fun h => Y_mv h) ?_
        intro v h
        refine G_pg (t := 62) 19 rfl (by decide +kernel) h rfl rfl (fun h => Y_ia se22 h) ?_
        intro v h
        refine G_rg (t := 62) _ 20 rfl (by decide +kernel) h rfl rfl (fun h => R_ld sc3 h) ?_
        intro v h
        refine G_pg (t := 62) 21 rfl (by decide +kernel) h rfl rfl (fun h => Y_mv h) ?_
        intro v h
        refine G_pg (t := 62) 22 rfl (by decide +kernel) h rfl rfl (fun h => Y_mv h) ?_
        intro v h
        refine G_pg (t := 62) 23 rfl (by decide +kernel) h rfl rfl (fun h => Y_ia se45 h) ?_
        intro v h
        refine G_pg (t := 62) 24 rfl (by decide +kernel) h rfl rfl (fun h => Y_fa fo53_0 h) ?_
        intro v h
        refine G_rg (t := 62) _ 25 rfl (by decide +kernel) h rfl rfl (fun h => R_ld sc3 h) ?_
        intro v h
        refine G_pg (t := 62) 26 rfl (by decide +kernel) h rfl rfl (fun h => Y_nei h) ?_
        intro v h
        refine G_pg (t := 58) 27 rfl (by decide +kernel) h rfl rfl (fun h => Y_pk h) ?_
        intro v h
        refine G_pg (t := 51) 28 rfl (by decide +kernel) h rfl rfl (fun h => Y_pk h) ?_
        intro v h
        refine G_p 29 rfl (by decide +kernel) (Y_pk h) ?_
        intro v h
        refine G_done (by decide +kernel) ?_
        refine E_n ?_
        refine C_cnd h (fun h => ?_) (fun h => ?_)
        · refine wp_seq ?_
          refine L_region ?_
          refine L_as ?_
          refine L_nil ?_
          refine E_n ?_
          refine C_ret ?_
          show bodyPost Tryd.prog Tryd.f8 (Rt Q) .ret _ _
          exact post_tmps (ts := [6]) (.inr rfl) rfl h
        · refine C_skip ?_
          refine E_n ?_
          refine wp_seq ?_
          refine L_region ?_
          refine L_as ?_
          refine L_nil ?_
          refine E_n ?_
          refine C_join (fun (k : Value → Value → Value → Value → M) (ρ : Nat → Value) => k (ρ 1) (ρ 2) (ρ 7) (ρ 8)) h (fun j3 J3 h => ?_) (fun ρ w h => ?_)
          · refine C_blk ?_
            refine C_lo (fun (l : Value → Value → Value → Value → Value → Value → M) (ρ : Nat → Value) => l (ρ 1) (ρ 2) (ρ 7) (ρ 8) (ρ 11) (ρ 12)) h (fun ρ w h => h) (fun nx self4 L4 ρ w h => ?_)
            unfold f8_b4 at h
            refine wp_seq ?_
            refine wp_seq ?_
            refine L_region ?_
            refine L_mv ?_
            refine L_mv ?_
            refine L_u (P_lnl is22 h) ?_
            intro v w h
            refine L_u (P_lt h) ?_
            intro v w h
            refine L_nil ?_
            refine E_n ?_
            refine C_cnd h (fun h => ?_) (fun h => ?_)
            · refine C_skip ?_
              refine E_n ?_
              refine wp_seq ?_
              refine C_blk ?_
              refine wp_seq ?_
              refine L_region ?_
              refine L_as ?_
              refine L_nil ?_
              refine E_n ?_
              refine C_join (fun (k : Value → Value → Value → Value → Value → Value → M) (ρ : Nat → Value) => k (ρ 1) (ρ 2) (ρ 7) (ρ 8) (ρ 11) (ρ 12)) h (fun j5 J5 h => ?_) (fun ρ w h => ?_)
              · refine C_blk ?_
                refine C_lo (fun (l : Value → Value → Value → Value → Value → Value → Value → M) (ρ : Nat → Value) => l (ρ 1) (ρ 2) (ρ 7) (ρ 8) (ρ 11) (ρ 12) (ρ 13)) h (fun ρ w h => h) (fun nx self6 L6 ρ w h => ?_)
                unfold f8_b6 at h
                refine wp_seq ?_
                refine wp_seq ?_
                refine L_region ?_
                refine L_mv ?_
                refine L_mv ?_
                refine L_u (P_lt h) ?_
                intro v w h
                refine L_nil ?_
                refine E_n ?_
                refine C_cnd h (fun h => ?_) (fun h => ?_)
                · refine C_skip ?_
                  refine E_n ?_
                  refine wp_seq ?_
                  refine C_blk ?_
                  refine wp_seq ?_
                  refine D_region (by decide +kernel) 9 rfl ?_
                  replace h := dr_e h
                  refine G_p 0 rfl (by decide +kernel) (Y_mv h) ?_
                  intro v h
                  refine G_p 1 rfl (by decide +kernel) (Y_mv h) ?_
                  intro v h
                  refine G_p 2 rfl (by decide +kernel) (Y_ia se22 h) ?_
                  intro v h
                  refine G_r _ 3 rfl (by decide +kernel) (R_ld sc3 h) ?_
                  intro v h
                  refine G_p 4 rfl (by decide +kernel) (Y_mv h) ?_
                  intro v h
                  refine G_p 5 rfl (by decide +kernel) (Y_mv h) ?_
                  intro v h
                  refine G_p 6 rfl (by decide +kernel) (Y_ia se22 h) ?_
                  intro v h
                  refine G_r _ 7 rfl (by decide +kernel) (R_ld sc3 h) ?_
                  intro v h
                  refine G_p 8 rfl (by decide +kernel) (Y_eqi h) ?_
                  intro v h
                  refine G_done (by decide +kernel) ?_
                  refine E_n ?_
                  refine C_cnd h (fun h => ?_) (fun h => ?_)
                  · refine wp_seq ?_
                    refine L_region ?_
                    refine L_as ?_
                    refine L_nil ?_
                    refine E_n ?_
                    refine C_ret ?_
                    show bodyPost Tryd.prog Tryd.f8 (Rt Q) .ret _ _
                    exact post_tmps (ts := [6]) (.inr rfl) rfl h
                  · refine C_skip ?_
                    refine B_n ?_
                    refine E_n ?_
                    refine L_region ?_
                    refine L_mv ?_
                    refine L_u (P_ad h) ?_
                    intro v w h
                    refine L_as ?_
                    refine L_nil ?_
                    refine E_n ?_
                    exact L6 _ _ h
                · refine C_exit ?_
                  refine E_x ?_
                  refine E_x ?_
                  refine B_x ?_
                  exact J5 _ _ h
              · unfold f8_j5 at h
                refine B_n ?_
                refine E_n ?_
                refine L_region ?_
                refine L_mv ?_
                refine L_u (P_ad h) ?_
                intro v w h
                refine L_as ?_
                refine L_nil ?_
                refine E_n ?_
                exact L4 _ _ h
            · refine C_exit ?_
              refine E_x ?_
              refine E_x ?_
              refine B_x ?_
              exact J3 _ _ h
          · unfold f8_j3 at h
            refine B_n ?_
            refine E_n ?_
            refine L_region ?_
            refine L_mv ?_
            refine L_u (P_ad h) ?_
            intro v w h
            refine L_as ?_
            refine L_nil ?_
            refine E_n ?_
            exact L2 _ _ h
      · refine C_exit ?_
        refine E_x ?_
        refine E_x ?_
        refine B_x ?_
        exact J1 _ _ h
    · unfold f8_j1 at h
      refine E_n ?_
      refine wp_seq ?_
      refine L_region ?_
      refine L_as ?_
      refine L_nil ?_
      refine E_n ?_
      refine C_ret ?_
      show bodyPost Tryd.prog Tryd.f8 (Rt Q) .ret _ _
      exact post_tmps (ts := [6]) (.inr rfl) rfl h

/- factotum/factotumlaw07.CacheMore -/
def f9_b2 (j1 : M) (self2 : Value → Value → Value → Value → M) (t2_1 t9 t10 t11 : Value) : M :=
  lnl t2_1 fun t45 =>
  lt .i64 t11 t45 fun t46 =>
  cnd t46 (
    ia 3 t2_1 t11 fun t52 =>
    fa 0 t52 fun t53 =>
    ld t53 fun t54 =>
    cl (f32 t9 t54) fun t55 =>
    ia 3 t2_1 t11 fun t59 =>
    fa 0 t59 fun t60 =>
    ld t60 fun t61 =>
    cl (f32 t10 t61) fun t62 =>
    cl (f33 t9) fun t64 =>
    cl (f33 t10) fun t66 =>
    lnl t64 fun t68 =>
    lnl t66 fun t70 =>
    gt .i64 t68 t70 fun t71 =>
    gd t71 false (idv t64) fun t73 =>
    gd t71 false (idv t66) fun t74 =>
    gd t71 false (idv t64) fun t75 =>
    gd t71 false (lnl t75) fun t76 =>
    gd t71 false (sll 1 t74 none (some t76)) fun t77 =>
    gd t71 false (cl (f17 t73 t77)) fun t78 =>
    gd t71 false (nt t78) fun t79 =>
    pk t71 (.bool true) t79 fun t80 =>
    gd t80 false (idv t9) fun t82 =>
    gd t80 false (cl (f34 t82)) fun t83 =>
    gd t80 false (idv t10) fun t84 =>
    gd t80 false (cl (f34 t84)) fun t85 =>
    gd t80 false (gt .i64 t83 t85) fun t86 =>
    pk t80 (.bool true) t86 fun t87 =>
    gd t87 false (idv t9) fun t89 =>
    gd t87 false (cl (f34 t89)) fun t90 =>
    gd t87 false (idv t9) fun t91 =>
    gd t87 false (cl (f35 t91)) fun t92 =>
    gd t87 false (ad .i64 t90 t92) fun t93 =>
    gd t87 false (idv t10) fun t94 =>
    gd t87 false (cl (f34 t94)) fun t95 =>
    gd t87 false (idv t10) fun t96 =>
    gd t87 false (cl (f35 t96)) fun t97 =>
    gd t87 false (ad .i64 t95 t97) fun t98 =>
    gd t87 false (nei .i64 t93 t98) fun t99 =>
    pk t87 (.bool true) t99 fun t100 =>
    cnd t100 (
      rt (.bool false)
      ) (
      ad .i64 t11 (.int .i64 1) fun t48 =>
      self2 t2_1 t9 t10 t48
      )
    ) (
    j1
    )
def f9_j1 : M :=
  rt (.bool true)
def f9 (t0 t1 t2 : Value) : M :=
  bx 35 t1 fun t4 =>
  cl (f28) fun t14 =>
  nt t14 fun t15 =>
  cnd t15 (
    rt (.bool false)
    ) (
    cv .u64 t0 fun t17 =>
    re .u64 t17 (.int .u64 30) fun t18 =>
    cv .i64 t18 fun t19 =>
    ad .i64 (.int .i64 1) t19 fun t20 =>
    cl (f29 t2) fun t22 =>
    iaa 2 1 t4 (.int .i64 0) fun t23 =>
    ld t23 fun t24 =>
    cv .u64 t24 fun t25 =>
    re .u64 t25 (.int .u64 20) fun t26 =>
    cv .i64 t26 fun t27 =>
    iaa 2 1 t4 (.int .i64 1) fun t29 =>
    ld t29 fun t30 =>
    cv .u64 t30 fun t31 =>
    re .u64 t31 (.int .u64 20) fun t32 =>
    cv .i64 t32 fun t33 =>
    ad .i64 t27 t33 fun t34 =>
    cl (f31 t20) fun t36 =>
    cl (f30 t36 t27) fun t38 =>
    cl (f31 t20) fun t40 =>
    cl (f30 t40 t34) fun t42 =>
    jn (fun (j1 : M) =>
      lo (fun _ _ _ _ => bot) (f9_b2 j1) (fun l => l t22 t38 t42 (.int .i64 0))
      ) (f9_j1)
    )
theorem s9 (t0 t1 t2 : Value) (w : World) (Q : Value → World → Prop) (h : f9 t0 t1 t2 w Q) : Calls Tryd.prog 9 #[t0, t1, t2] w (Rt Q) := by
  refine calls_of (l := [t0, t1, t2]) Tryd.func9 rfl Tryd.ntmps9 (Nat.le_of_ble_eq_true rfl) ?_
  unfold f9 at h
  refine wp_seq ?_
  refine L_region ?_
  refine L_u (P_bx h) ?_
  intro v w h
  refine L_as ?_
  refine L_nil ?_
  refine E_n ?_
  refine wp_seq ?_
  refine wp_seq ?_
  refine L_region ?_
  refine L_u (N_cl Tryd.func28 rfl nn28 (fun w Q h => s28 w Q h) h) ?_
  intro v w h
  refine L_u (P_nt h) ?_
  intro v w h
  refine L_nil ?_
  refine E_n ?_
  refine C_cnd h (fun h => ?_) (fun h => ?_)
  · refine wp_seq ?_
    refine L_region ?_
    refine L_as ?_
    refine L_nil ?_
    refine E_n ?_
    refine C_ret ?_
    show bodyPost Tryd.prog Tryd.f9 (Rt Q) .ret _ _
    exact post_tmps (ts := [6]) (.inr rfl) rfl h
  · refine C_skip ?_
    refine E_n ?_
    refine wp_seq ?_
    refine L_region ?_
    refine L_mv ?_
    refine L_u (P_cv ai3 in33 h) ?_
    intro v w h
    refine L_u (P_re h) ?_
    intro v w h
    refine L_u (P_cv ai33 in3 h) ?_
    intro v w h
    refine L_u (P_ad h) ?_
    intro v w h
    refine L_as ?_
    refine L_nil ?_
    refine E_n ?_
    refine wp_seq ?_
    refine L_region ?_
    refine L_mv ?_
    refine L_u (N_cl Tryd.func29 rfl nn29 (fun w Q h => s29 _ w Q h) h) ?_
    intro v w h
    refine L_as ?_
    refine L_nil ?_
    refine E_n ?_
    refine wp_seq ?_
    refine L_region ?_
    refine L_u (P_iaa ae35 h) ?_
    intro v w h
    refine L_u (P_ld sc3 h) ?_
    intro v w h
    refine L_u (P_cv ai3 in33 h) ?_
    intro v w h
    refine L_u (P_re h) ?_
    intro v w h
    refine L_u (P_cv ai33 in3 h) ?_
    intro v w h
    refine L_as ?_
    refine L_nil ?_
    refine E_n ?_
    refine wp_seq ?_
    refine L_region ?_
    refine L_mv ?_
    refine L_u (P_iaa ae35 h) ?_
    intro v w h
    refine L_u (P_ld sc3 h) ?_
    intro v w h
    refine L_u (P_cv ai3 in33 h) ?_
    intro v w h
    refine L_u (P_re h) ?_
    intro v w h
    refine L_u (P_cv ai33 in3 h) ?_
    intro v w h
    refine L_u (P_ad h) ?_
    intro v w h
    refine L_as ?_
    refine L_nil ?_
    refine E_n ?_
    refine wp_seq ?_
    refine L_region ?_
    refine L_mv ?_
    refine L_u (N_cl Tryd.func31 rfl nn31 (fun w Q h => s31 _ w Q h) h) ?_
    intro v w h
    refine L_mv ?_
    refine L_u (N_cl Tryd.func30 rfl nn30 (fun w Q h => s30 _ _ w Q h) h) ?_
    intro v w h
    refine L_mv ?_
    refine L_u (N_cl Tryd.func31 rfl nn31 (fun w Q h => s31 _ w Q h) h) ?_
    intro v w h
    refine L_mv ?_
    refine L_u (N_cl Tryd.func30 rfl nn30 (fun w Q h => s30 _ _ w Q h) h) ?_
    intro v w h
    refine L_as ?_
    refine L_as ?_
    refine L_nil ?_
    refine E_n ?_
    refine wp_seq ?_
    refine wp_seq ?_
    refine L_region ?_
    refine L_as ?_
    refine L_nil ?_
    refine E_n ?_
    refine C_join (fun (k : M) (ρ : Nat → Value) => k) h (fun j1 J1 h => ?_) (fun ρ w h => ?_)
    · refine C_blk ?_
      refine C_lo (fun (l : Value → Value → Value → Value → M) (ρ : Nat → Value) => l (ρ 2) (ρ 9) (ρ 10) (ρ 11)) h (fun ρ w h => h) (fun nx self2 L2 ρ w h => ?_)
      unfold f9_b2 at h
      refine wp_seq ?_
      refine wp_seq ?_
      refine L_region ?_
      refine L_mv ?_
      refine L_mv ?_
      refine L_u (P_lnl is45 h) ?_
      intro v w h
      refine L_u (P_lt h) ?_
      intro v w h
      refine L_nil ?_
      refine E_n ?_
      refine C_cnd h (fun h => ?_) (fun h => ?_)
      · refine C_skip ?_
        refine E_n ?_
        refine wp_seq ?_
        refine C_blk ?_
        refine wp_seq ?_
        refine L_region ?_
        refine L_mv ?_
        refine L_mv ?_
        refine L_mv ?_
        refine L_u (P_ia se45 h) ?_
        intro v w h
        refine L_u (P_fa fo53_0 h) ?_
        intro v w h
        refine L_u (P_ld sc3 h) ?_
        intro v w h
        refine L_u (N_cl Tryd.func32 rfl nn32 (fun w Q h => s32 _ _ w Q h) h) ?_
        intro v w h
        refine L_nil ?_
        refine E_n ?_
        refine wp_seq ?_
        refine L_region ?_
        refine L_mv ?_
        refine L_mv ?_
        refine L_mv ?_
        refine L_u (P_ia se45 h) ?_
        intro v w h
        refine L_u (P_fa fo53_0 h) ?_
        intro v w h
        refine L_u (P_ld sc3 h) ?_
        intro v w h
        refine L_u (N_cl Tryd.func32 rfl nn32 (fun w Q h => s32 _ _ w Q h) h) ?_
        intro v w h
        refine L_nil ?_
        refine E_n ?_
        refine wp_seq ?_
        refine L_region ?_
        refine L_mv ?_
        refine L_u (N_cl Tryd.func33 rfl nn33 (fun w Q h => s33 _ w Q h) h) ?_
        intro v w h
        refine L_mv ?_
        refine L_u (N_cl Tryd.func33 rfl nn33 (fun w Q h => s33 _ w Q h) h) ?_
        intro v w h
        refine L_as ?_
        refine L_as ?_
        refine L_nil ?_
        refine E_n ?_
        refine wp_seq ?_
        refine L_region ?_
        refine L_mv ?_
        refine L_u (P_lnl is22 h) ?_
        intro v w h
        refine L_mv ?_
        refine L_u (P_lnl is22 h) ?_
        intro v w h
        refine L_u (P_gt h) ?_
        intro v w h
        refine L_mv ?_
        refine L_g (t := 72) h rfl rfl (fun c h => P_mv h c) ?_
        intro v w h
        refine L_g (t := 72) h rfl rfl (fun c h => P_mv h c) ?_
        intro v w h
        refine L_g (t := 72) h rfl rfl (fun c h => P_mv h c) ?_
        intro v w h
        refine L_g (t := 72) h rfl rfl (fun c h => P_lnl is22 h c) ?_
        intro v w h
        refine L_g (t := 72) h rfl rfl (fun c h => P_sll se22 h c) ?_
        intro v w h
        refine L_g (t := 72) h rfl rfl (fun c h => N_cl Tryd.func17 rfl nn17 (fun w Q h => s17 _ _ w Q h) h c) ?_
        intro v w h
        refine L_g (t := 72) h rfl rfl (fun c h => P_nt h c) ?_
        intro v w h
        refine L_u (P_pk h) ?_
        intro v w h
        refine L_mv ?_
        refine L_g (t := 81) h rfl rfl (fun c h => P_mv h c) ?_
        intro v w h
        refine L_g (t := 81) h rfl rfl (fun c h => N_cl Tryd.func34 rfl nn34 (fun w Q h => s34 _ w Q h) h c) ?_
        intro v w h
        refine L_g (t := 81) h rfl rfl (fun c h => P_mv h c) ?_
        intro v w h
        refine L_g (t := 81) h rfl rfl (fun c h => N_cl Tryd.func34 rfl nn34 (fun w Q h => s34 _ w Q h) h c) ?_
        intro v w h
        refine L_g (t := 81) h rfl rfl (fun c h => P_gt h c) ?_
        intro v w h
        refine L_u (P_pk h) ?_
        intro v w h
        refine L_mv ?_
        refine L_g (t := 88) h rfl rfl (fun c h => P_mv h c) ?_
        intro v w h
        refine L_g (t := 88) h rfl rfl (fun c h => N_cl Tryd.func34 rfl nn34 (fun w Q h => s34 _ w Q h) h c) ?_
        intro v w h
        refine L_g (t := 88) h rfl rfl (fun c h => P_mv h c) ?_
        intro v w h
        refine L_g (t := 88) h rfl rfl (fun c h => N_cl Tryd.func35 rfl nn35 (fun w Q h => s35 _ w Q h) h c) ?_
        intro v w h
        refine L_g (t := 88) h rfl rfl (fun c h => P_ad h c) ?_
        intro v w h
        refine L_g (t := 88) h rfl rfl (fun c h => P_mv h c) ?_
        intro v w h
        refine L_g (t := 88) h rfl rfl (fun c h => N_cl Tryd.func34 rfl nn34 (fun w Q h => s34 _ w Q h) h c) ?_
        intro v w h
        refine L_g (t := 88) h rfl rfl (fun c h => P_mv h c) ?_
        intro v w h
        refine L_g (t := 88) h rfl rfl (fun c h => N_cl Tryd.func35 rfl nn35 (fun w Q h => s35 _ w Q h) h c) ?_
        intro v w h
        refine L_g (t := 88) h rfl rfl (fun c h => P_ad h c) ?_
        intro v w h
        refine L_g (t := 88) h rfl rfl (fun c h => P_nei h c) ?_
        intro v w h
        refine L_u (P_pk h) ?_
        intro v w h
        refine L_nil ?_
        refine E_n ?_
        refine C_cnd h (fun h => ?_) (fun h => ?_)
        · refine wp_seq ?_
          refine L_region ?_
          refine L_as ?_
          refine L_nil ?_
          refine E_n ?_
          refine C_ret ?_
          show bodyPost Tryd.prog Tryd.f9 (Rt Q) .ret _ _
          exact post_tmps (ts := [6]) (.inr rfl) rfl h
        · refine C_skip ?_
          refine B_n ?_
          refine E_n ?_
          refine L_region ?_
          refine L_mv ?_
          refine L_u (P_ad h) ?_
          intro v w h
          refine L_as ?_
          refine L_nil ?_
          refine E_n ?_
          exact L2 _ _ h
      · refine C_exit ?_
        refine E_x ?_
        refine E_x ?_
        refine B_x ?_
        exact J1 _ _ h
    · unfold f9_j1 at h
      refine E_n ?_
      refine wp_seq ?_
      refine L_region ?_
      refine L_as ?_
      refine L_nil ?_
      refine E_n ?_
      refine C_ret ?_
      show bodyPost Tryd.prog Tryd.f9 (Rt Q) .ret _ _
      exact post_tmps (ts := [6]) (.inr rfl) rfl h
end Go.Proofs.YtongpnolikkknaaDoor

set_option maxRecDepth 20000
set_option maxHeartbeats 4000000
namespace Go.Proofs.YtongpnolikkknaaDoor
open Sh
attribute [local irreducible] wpL anyG act jn lo gdB amb kp smr nc fa ld ldn st stn ad su mu qu re lt le gt ge eqi nei bws shl shr cat eqs nes lts gts eqb neb nt pk cv al bx ex fld fldn lnl lns ia iaa ixs sls sll sla mif mnm mxm mm asrt sm smu cl cc cf ci cnd gd gdu
/- (*factotum/pager.Pager).may -/
def f73_b2 (j1 : Value → M) (self2 : Value → Value → Value → Value → Value → Value → M) (t0_1 t5 t6 t17 t18_1 t19 : Value) : M :=
  lt .i64 t19 t18_1 fun t20 =>
  cnd t20 (
    ia 2 t17 t19 fun t21 =>
    ldn 2 t21 fun t22 =>
    al 104 #[(.int .i64 0), (.string ⟨#[]⟩)] fun t8 =>
    stn 2 t8 t22 <|
    dr <|
    fa 0 t8 fun t23 =>
    ld t23 fun t24 =>
    lt .i64 t24 (.int .i64 0) fun t25 =>
    idv t25 fun t26 =>
    gd t26 false (fa 0 t8) fun t27 =>
    gd t26 false (ld t27) fun t28 =>
    gd t26 false (idv t0_1) fun t29 =>
    gd t26 false (nc t29) fun t30 =>
    gd t26 false (fa 1 t30) fun t31 =>
    gd t26 false (ld t31) fun t32 =>
    gd t26 false (lnl t32) fun t33 =>
    gd t26 false (ge .i64 t28 t33) fun t34 =>
    pk t26 (.bool true) t34 fun t35 =>
    cnd t35 (
      rt (.int .i64 7)
      ) (
      fa 0 t8 fun t37 =>
      ld t37 fun t38 =>
      smr Tryd.prog (Instr.lookup 118 t5 t38 false) fun t39 =>
      ad .i64 t39 (.int .i64 1) fun t40 =>
      smu Tryd.prog (Instr.mapUpdate 118 t5 t38 t40) <|
      gd t6 false (idv t5) fun t43 =>
      gd t6 false (fa 0 t8) fun t44 =>
      gd t6 false (ld t44) fun t45 =>
      gd t6 false (smr Tryd.prog (Instr.lookup 118 t43 t45 false)) fun t46 =>
      gd t6 false (gt .i64 t46 (.int .i64 1)) fun t47 =>
      pk t6 (.bool true) t47 fun t48 =>
      gd t48 false (fa 1 t8) fun t50 =>
      gd t48 false (ld t50) fun t51 =>
      gd t48 false (lns t51) fun t52 =>
      gd t48 false (nei .i64 t52 (.int .i64 256)) fun t53 =>
      pk t48 (.bool true) t53 fun t54 =>
      ad .i64 t19 (.int .i64 1) fun t55 =>
      self2 t0_1 t5 t54 t17 t18_1 t55
      )
    ) (
    j1 t6
    )
def f73_j1 (t6_1 : Value) : M :=
  cnd t6_1 (
    rt (.int .i64 1)
    ) (
    rt (.int .i64 0)
    )
def f73 (t0 t1 : Value) : M :=
  nc t0 fun t10 =>
  fa 2 t10 fun t11 =>
  ld t11 fun t12 =>
  cnd t12 (
    rt (.int .i64 13)
    ) (
    lnl t1 fun t14 =>
    gt .i64 t14 (.int .i64 31) fun t15 =>
    cnd t15 (
      rt (.int .i64 3)
      ) (
      mm fun t16 =>
      lnl t1 fun t18 =>
      jn (fun (j1 : Value → M) =>
        lo (fun _ _ _ _ _ _ => bot) (f73_b2 j1) (fun l => l t0 t16 (.bool false) t1 t18 (.int .i64 0))
        ) (f73_j1)
      )
    )
theorem s73 (t0 t1 : Value) (w : World) (Q : Value → World → Prop) (h : f73 t0 t1 w Q) : Calls Tryd.prog 73 #[t0, t1] w (Rt Q) := by
  refine calls_of (l := [t0, t1]) Tryd.func73 rfl Tryd.ntmps73 (Nat.le_of_ble_eq_true rfl) ?_
  unfold f73 at h
  refine wp_seq ?_
  refine L_region ?_
  refine L_as ?_
  refine L_nil ?_
  refine E_n ?_
  refine wp_seq ?_
  refine wp_seq ?_
  refine L_region ?_
  refine L_mv ?_
  refine L_u (P_nc h) ?_
  intro v w h
  refine L_u (P_fa fo110_2 h) ?_
  intro v w h
  refine L_u (P_ld sc4 h) ?_
  intro v w h
  refine L_nil ?_
  refine E_n ?_
  refine C_cnd h (fun h => ?_) (fun h => ?_)
  · refine wp_seq ?_
    refine L_region ?_
    refine L_as ?_
    refine L_nil ?_
    refine E_n ?_
    refine C_ret ?_
    show bodyPost Tryd.prog Tryd.f73 (Rt Q) .ret _ _
    exact post_tmps (ts := [4]) (.inr rfl) rfl h
  · refine C_skip ?_
    refine E_n ?_
    refine wp_seq ?_
    refine wp_seq ?_
    refine L_region ?_
    refine L_mv ?_
    refine L_u (P_lnl is69 h) ?_
    intro v w h
    refine L_u (P_gt h) ?_
    intro v w h
    refine L_nil ?_
    refine E_n ?_
    refine C_cnd h (fun h => ?_) (fun h => ?_)
    · refine wp_seq ?_
      refine L_region ?_
      refine L_as ?_
      refine L_nil ?_
      refine E_n ?_
      refine C_ret ?_
      show bodyPost Tryd.prog Tryd.f73 (Rt Q) .ret _ _
      exact post_tmps (ts := [4]) (.inr rfl) rfl h
    · refine C_skip ?_
      refine E_n ?_
      refine wp_seq ?_
      refine L_region ?_
      refine L_u (P_mm h) ?_
      intro v w h
      refine L_as ?_
      refine L_nil ?_
      refine E_n ?_
      refine wp_seq ?_
      refine L_region ?_
      refine L_as ?_
      refine L_nil ?_
      refine E_n ?_
      refine wp_seq ?_
      refine wp_seq ?_
      refine L_region ?_
      refine L_mv ?_
      refine L_u (P_lnl is69 h) ?_
      intro v w h
      refine L_mv ?_
      refine L_nil ?_
      refine E_n ?_
      refine C_join (fun (k : Value → M) (ρ : Nat → Value) => k (ρ 6)) h (fun j1 J1 h => ?_) (fun ρ w h => ?_)
      · refine C_blk ?_
        refine C_lo (fun (l : Value → Value → Value → Value → Value → Value → M) (ρ : Nat → Value) => l (ρ 0) (ρ 5) (ρ 6) (ρ 17) (ρ 18) (ρ 19)) h (fun ρ w h => h) (fun nx self2 L2 ρ w h => ?_)
        unfold f73_b2 at h
        refine wp_seq ?_
        refine L_region ?_
        refine L_u (P_lt h) ?_
        intro v w h
        refine L_nil ?_
        refine E_n ?_
        refine wp_seq ?_
        refine C_cnd h (fun h => ?_) (fun h => ?_)
        · refine C_skip ?_
          refine E_n ?_
          refine wp_seq ?_
          refine C_blk ?_
          refine wp_seq ?_
          refine L_region ?_
          refine L_u (P_ia se69 h) ?_
          intro v w h
          refine L_u (P_ldn ag104 h) ?_
          intro v w h
          refine L_u (P_al ze104 rfl h) ?_
          intro v w h
          refine L_u (P_stn ag104 h) ?_
          intro w h
          refine L_nil ?_
          refine E_n ?_
          refine wp_seq ?_
          refine wp_seq ?_
          refine D_region (by decide +kernel) 13 rfl ?_
          replace h := dr_e h
          refine G_p 0 rfl (by decide +kernel) (Y_fa fo104_0 h) ?_
          intro v h
          refine G_r _ 1 rfl (by decide +kernel) (R_ld sc3 h) ?_
          intro v h
          refine G_p 2 rfl (by decide +kernel) (Y_lt h) ?_
          intro v h
          refine G_p 3 rfl (by decide +kernel) (Y_mv h) ?_
          intro v h
          refine G_pg (t := 26) 4 rfl (by decide +kernel) h rfl rfl (fun h => Y_fa fo104_0 h) ?_
          intro v h
          refine G_rg (t := 26) _ 5 rfl (by decide +kernel) h rfl rfl (fun h => R_ld sc3 h) ?_
          intro v h
          refine G_pg (t := 26) 6 rfl (by decide +kernel) h rfl rfl (fun h => Y_mv h) ?_
          intro v h
          refine G_pg (t := 26) 7 rfl (by decide +kernel) h rfl rfl (fun h => Y_nc h) ?_
          intro v h
          refine G_pg (t := 26) 8 rfl (by decide +kernel) h rfl rfl (fun h => Y_fa fo110_1 h) ?_
          intro v h
          refine G_rg (t := 26) _ 9 rfl (by decide +kernel) h rfl rfl (fun h => R_ld sc39 h) ?_
          intro v h
          refine G_pg (t := 26) 10 rfl (by decide +kernel) h rfl rfl (fun h => Y_lnl is39 h) ?_
          intro v h
          refine G_pg (t := 26) 11 rfl (by decide +kernel) h rfl rfl (fun h => Y_ge h) ?_
          intro v h
          refine G_p 12 rfl (by decide +kernel) (Y_pk h) ?_
          intro v h
          refine G_done (by decide +kernel) ?_
          refine E_n ?_
          refine C_cnd h (fun h => ?_) (fun h => ?_)
          · refine wp_seq ?_
            refine L_region ?_
            refine L_as ?_
            refine L_nil ?_
            refine E_n ?_
            refine C_ret ?_
            show bodyPost Tryd.prog Tryd.f73 (Rt Q) .ret _ _
            exact post_tmps (ts := [4]) (.inr rfl) rfl h
          · refine C_skip ?_
            refine E_n ?_
            refine wp_seq ?_
            refine L_region ?_
            refine L_mv ?_
            refine L_u (P_fa fo104_0 h) ?_
            intro v w h
            refine L_u (P_ld sc3 h) ?_
            intro v w h
            refine L_u (P_smr rfl h) ?_
            intro v w h
            refine L_u (P_ad h) ?_
            intro v w h
            refine L_u (P_smu rfl h) ?_
            intro w h
            refine L_nil ?_
            refine E_n ?_
            refine L_region ?_
            refine L_mv ?_
            refine L_mv ?_
            refine L_g (t := 42) h rfl rfl (fun c h => P_mv h c) ?_
            intro v w h
            refine L_g (t := 42) h rfl rfl (fun c h => P_fa fo104_0 h c) ?_
            intro v w h
            refine L_g (t := 42) h rfl rfl (fun c h => P_ld sc3 h c) ?_
            intro v w h
            refine L_g (t := 42) h rfl rfl (fun c h => P_smr rfl h c) ?_
            intro v w h
            refine L_g (t := 42) h rfl rfl (fun c h => P_gt h c) ?_
            intro v w h
            refine L_u (P_pk h) ?_
            intro v w h
            refine L_mv ?_
            refine L_g (t := 49) h rfl rfl (fun c h => P_fa fo104_1 h c) ?_
            intro v w h
            refine L_g (t := 49) h rfl rfl (fun c h => P_ld sc9 h c) ?_
            intro v w h
            refine L_g (t := 49) h rfl rfl (fun c h => P_lns st9 h c) ?_
            intro v w h
            refine L_g (t := 49) h rfl rfl (fun c h => P_nei h c) ?_
            intro v w h
            refine L_u (P_pk h) ?_
            intro v w h
            refine L_as ?_
            refine L_nil ?_
            refine B_n ?_
            refine E_n ?_
            refine L_region ?_
            refine L_u (P_ad h) ?_
            intro v w h
            refine L_mv ?_
            refine L_nil ?_
            refine E_n ?_
            exact L2 _ _ h
        · refine C_exit ?_
          refine E_x ?_
          refine E_x ?_
          refine B_x ?_
          exact J1 _ _ h
      · unfold f73_j1 at h
        refine E_n ?_
        refine wp_seq ?_
        refine wp_seq ?_
        refine L_region ?_
        refine L_mv ?_
        refine L_nil ?_
        refine E_n ?_
        refine C_cnd h (fun h => ?_) (fun h => ?_)
        · refine wp_seq ?_
          refine L_region ?_
          refine L_as ?_
          refine L_nil ?_
          refine E_n ?_
          refine C_ret ?_
          show bodyPost Tryd.prog Tryd.f73 (Rt Q) .ret _ _
          exact post_tmps (ts := [4]) (.inr rfl) rfl h
        · refine C_skip ?_
          refine E_n ?_
          refine wp_seq ?_
          refine L_region ?_
          refine L_as ?_
          refine L_nil ?_
          refine E_n ?_
          refine C_ret ?_
          show bodyPost Tryd.prog Tryd.f73 (Rt Q) .ret _ _
          exact post_tmps (ts := [4]) (.inr rfl) rfl h

/- (*factotum/pager.Pager).steps$1 -/
def f98 (t0 t1 : Value) : M :=
  ld t1 fun t4 =>
  cl (f20 t4 t0) fun t6 =>
  rt t6
theorem s98 (t0 t1 : Value) (w : World) (Q : Value → World → Prop) (h : f98 t0 t1 w Q) : Calls Tryd.prog 98 #[t0, t1] w (Rt Q) := by
  refine calls_of (l := [t0, t1]) Tryd.func98 rfl Tryd.ntmps98 (Nat.le_of_ble_eq_true rfl) ?_
  unfold f98 at h
  refine wp_seq ?_
  refine L_region ?_
  refine L_as ?_
  refine L_nil ?_
  refine E_n ?_
  refine wp_seq ?_
  refine L_region ?_
  refine L_u (P_ld sc3 h) ?_
  intro v w h
  refine L_mv ?_
  refine L_u (N_cl Tryd.func20 rfl nn20 (fun w Q h => s20 _ _ w Q h) h) ?_
  intro v w h
  refine L_as ?_
  refine L_nil ?_
  refine E_n ?_
  refine C_ret ?_
  show bodyPost Tryd.prog Tryd.f98 (Rt Q) .ret _ _
  exact post_tmps (ts := [3]) (.inr rfl) rfl h

/- (*factotum/pager.Pager).steps$2 -/
def f99 (t0 t1 : Value) : M :=
  fa 0 t1 fun t4 =>
  ld t4 fun t5 =>
  cl (f21 t5 t0) fun t7 =>
  rt t7
theorem s99 (t0 t1 : Value) (w : World) (Q : Value → World → Prop) (h : f99 t0 t1 w Q) : Calls Tryd.prog 99 #[t0, t1] w (Rt Q) := by
  refine calls_of (l := [t0, t1]) Tryd.func99 rfl Tryd.ntmps99 (Nat.le_of_ble_eq_true rfl) ?_
  unfold f99 at h
  refine wp_seq ?_
  refine L_region ?_
  refine L_as ?_
  refine L_nil ?_
  refine E_n ?_
  refine wp_seq ?_
  refine L_region ?_
  refine L_u (P_fa fo104_0 h) ?_
  intro v w h
  refine L_u (P_ld sc3 h) ?_
  intro v w h
  refine L_mv ?_
  refine L_u (N_cl Tryd.func21 rfl nn21 (fun w Q h => s21 _ _ w Q h) h) ?_
  intro v w h
  refine L_as ?_
  refine L_nil ?_
  refine E_n ?_
  refine C_ret ?_
  show bodyPost Tryd.prog Tryd.f99 (Rt Q) .ret _ _
  exact post_tmps (ts := [3]) (.inr rfl) rfl h

/- (*factotum/pager.Pager).steps -/
def f75_b2 (j1 : Value → Value → Value → Value → M) (self2 : Value → Value → Value → Value → Value → Value → Value → M) (t0_1 t5 t6 t7 t13 t14_1 t15 : Value) : M :=
  lt .i64 t15 t14_1 fun t16 =>
  cnd t16 (
    ia 2 t13 t15 fun t18 =>
    ldn 2 t18 fun t19 =>
    al 3 #[(.int .i64 0)] fun t8 =>
    al 104 #[(.int .i64 0), (.string ⟨#[]⟩)] fun t9 =>
    st t8 t15 <|
    stn 2 t9 t19 <|
    fa 0 t9 fun t21 =>
    ld t21 fun t22 =>
    sm Tryd.prog (Instr.buildSlice 22 1 #[(0, t22)]) fun t23 =>
    sm Tryd.prog (Builtin.append_ #[22, 22] 22 #[t5, t23]) fun t24 =>
    dr <|
    idv t6 fun t25 =>
    idv t0_1 fun t26 =>
    idv (.func (.func 98) #[] #[t8]) fun t27 =>
    idv t0_1 fun t28 =>
    nc t28 fun t29 =>
    fa 1 t29 fun t30 =>
    ld t30 fun t31 =>
    fa 0 t9 fun t32 =>
    ld t32 fun t33 =>
    ia 1 t31 t33 fun t34 =>
    ld t34 fun t35 =>
    cl (f95 t26 t27 t35) fun t36 =>
    sm Tryd.prog (Builtin.append_ #[116, 116] 116 #[t25, t36]) fun t37 =>
    idv t37 fun t6_1 =>
    idv (.func (.func 99) #[] #[t9]) fun t40 =>
    fa 1 t9 fun t41 =>
    ld t41 fun t42 =>
    cl (f95 t0_1 t40 t42) fun t43 =>
    sm Tryd.prog (Builtin.append_ #[116, 116] 116 #[t7, t43]) fun t44 =>
    ad .i64 t15 (.int .i64 1) fun t45 =>
    self2 t0_1 t24 t6_1 t44 t13 t14_1 t45
    ) (
    j1 t0_1 t5 t6 t7
    )
def f75_j3 (t0_3 t12_2 : Value) : M :=
  cl (f97 t0_3 (.bool false)) fun t80 =>
  sm Tryd.prog (Builtin.append_ #[116, 116] 116 #[t12_2, t80]) fun t81 =>
  rt t81
def f75_j1 (t0_2 t5_1 t6_2 t7_1 : Value) : M :=
  cl (f13 t5_1) fun t48 =>
  ex 0 t48 fun t49 =>
  ex 1 t48 fun t50 =>
  cl (f100 t0_2 (.int .i64 1) t49) fun t53 =>
  sm Tryd.prog (Instr.buildSlice 116 1 #[(0, t53)]) fun t54 =>
  sm Tryd.prog (Builtin.append_ #[116, 116] 116 #[t54, t6_2]) fun t56 =>
  nc t0_2 fun t59 =>
  fa 0 t59 fun t60 =>
  ld t60 fun t61 =>
  idv (.func (.func 41) #[t61] #[]) fun t62 =>
  sm Tryd.prog (Instr.buildSlice 116 1 #[(0, t62)]) fun t63 =>
  sm Tryd.prog (Builtin.append_ #[116, 116] 116 #[t56, t63]) fun t64 =>
  cl (f97 t0_2 (.bool true)) fun t66 =>
  sm Tryd.prog (Builtin.append_ #[116, 116] 116 #[t64, t66]) fun t67 =>
  jn (fun (j3 : Value → Value → M) =>
    dr <|
    idv t67 fun t68 =>
    idv t7_1 fun t69 =>
    idv t0_2 fun t71 =>
    nc t71 fun t72 =>
    fa 0 t72 fun t73 =>
    ld t73 fun t74 =>
    idv (.func (.func 41) #[t74] #[]) fun t75 =>
    amb (
      sm Tryd.prog (Builtin.append_ #[116, 116] 116 #[t68, t69]) fun t70 =>
      kp (Kld t73 t74) <|
      sm Tryd.prog (Instr.buildSlice 116 1 #[(0, t75)]) fun t76_1 =>
      sm Tryd.prog (Builtin.append_ #[116, 116] 116 #[t70, t76_1]) fun t77 =>
      idv t77 fun t12 =>
      j3 t0_2 t12
      ) (
      sm Tryd.prog (Instr.buildSlice 116 1 #[(0, t75)]) fun t76 =>
      sm Tryd.prog (Builtin.append_ #[116, 116] 116 #[t68, t69]) fun t70_1 =>
      kp (Kld t73 t74) <|
      sm Tryd.prog (Builtin.append_ #[116, 116] 116 #[t70_1, t76]) fun t77_1 =>
      idv t77_1 fun t12_1 =>
      j3 t0_2 t12_1
      )
    ) (f75_j3)
def f75 (t0 t1 : Value) : M :=
  lnl t1 fun t14 =>
  jn (fun (j1 : Value → Value → Value → Value → M) =>
    lo (fun _ _ _ _ _ _ _ => bot) (f75_b2 j1) (fun l => l t0 (.slice none 0 0) (.slice none 0 0) (.slice none 0 0) t1 t14 (.int .i64 0))
    ) (f75_j1)
theorem s75 (t0 t1 : Value) (w : World) (Q : Value → World → Prop) (h : f75 t0 t1 w Q) : Calls Tryd.prog 75 #[t0, t1] w (Rt Q) := by
  refine calls_of (l := [t0, t1]) Tryd.func75 rfl Tryd.ntmps75 (Nat.le_of_ble_eq_true rfl) ?_
  unfold f75 at h
  refine wp_seq ?_
  refine L_region ?_
  refine L_as ?_
  refine L_nil ?_
  refine E_n ?_
  refine wp_seq ?_
  refine L_region ?_
  refine L_as ?_
  refine L_nil ?_
  refine E_n ?_
  refine wp_seq ?_
  refine L_region ?_
  refine L_as ?_
  refine L_as ?_
  refine L_nil ?_
  refine E_n ?_
  refine wp_seq ?_
  refine wp_seq ?_
  refine L_region ?_
  refine L_mv ?_
  refine L_u (P_lnl is69 h) ?_
  intro v w h
  refine L_mv ?_
  refine L_nil ?_
  refine E_n ?_
  refine C_join (fun (k : Value → Value → Value → Value → M) (ρ : Nat → Value) => k (ρ 0) (ρ 5) (ρ 6) (ρ 7)) h (fun j1 J1 h => ?_) (fun ρ w h => ?_)
  · refine C_blk ?_
    refine C_lo (fun (l : Value → Value → Value → Value → Value → Value → Value → M) (ρ : Nat → Value) => l (ρ 0) (ρ 5) (ρ 6) (ρ 7) (ρ 13) (ρ 14) (ρ 15)) h (fun ρ w h => h) (fun nx self2 L2 ρ w h => ?_)
    unfold f75_b2 at h
    refine wp_seq ?_
    refine L_region ?_
    refine L_u (P_lt h) ?_
    intro v w h
    refine L_nil ?_
    refine E_n ?_
    refine wp_seq ?_
    refine C_cnd h (fun h => ?_) (fun h => ?_)
    · refine C_skip ?_
      refine E_n ?_
      refine wp_seq ?_
      refine C_blk ?_
      refine wp_seq ?_
      refine L_region ?_
      refine L_mv ?_
      refine L_u (P_ia se69 h) ?_
      intro v w h
      refine L_u (P_ldn ag104 h) ?_
      intro v w h
      refine L_u (P_al ze3 rfl h) ?_
      intro v w h
      refine L_u (P_al ze104 rfl h) ?_
      intro v w h
      refine L_u (P_st on3 h) ?_
      intro w h
      refine L_u (P_stn ag104 h) ?_
      intro w h
      refine L_nil ?_
      refine E_n ?_
      refine wp_seq ?_
      refine L_region ?_
      refine L_mv ?_
      refine L_u (P_fa fo104_0 h) ?_
      intro v w h
      refine L_u (P_ld sc3 h) ?_
      intro v w h
      refine L_u (N_bsl h) ?_
      intro v w h
      refine L_u (N_bi rfl h) ?_
      intro v w h
      refine L_as ?_
      refine L_nil ?_
      refine E_n ?_
      refine wp_seq ?_
      refine D_region (by decide +kernel) 14 rfl ?_
      replace h := dr_e h
      refine G_p 0 rfl (by decide +kernel) (Y_mv h) ?_
      intro v h
      refine G_p 1 rfl (by decide +kernel) (Y_mv h) ?_
      intro v h
      refine G_p 2 rfl (by decide +kernel) (Y_nmf h) ?_
      intro v h
      refine G_p 3 rfl (by decide +kernel) (Y_mv h) ?_
      intro v h
      refine G_p 4 rfl (by decide +kernel) (Y_nc h) ?_
      intro v h
      refine G_p 5 rfl (by decide +kernel) (Y_fa fo110_1 h) ?_
      intro v h
      refine G_r _ 6 rfl (by decide +kernel) (R_ld sc39 h) ?_
      intro v h
      refine G_p 7 rfl (by decide +kernel) (Y_fa fo104_0 h) ?_
      intro v h
      refine G_r _ 8 rfl (by decide +kernel) (R_ld sc3 h) ?_
      intro v h
      refine G_p 9 rfl (by decide +kernel) (Y_ia se39 h) ?_
      intro v h
      refine G_r _ 10 rfl (by decide +kernel) (R_ld sc9 h) ?_
      intro v h
      refine G_e 11 rfl (by decide +kernel) (N_cl Tryd.func95 rfl nn95 (fun w Q h => s95 _ _ _ w Q h) h ?_)
      intro v w h
      refine ⟨keepF_dep [10] (by decide +kernel) rfl (keepF_dep [10, 9, 8] (by decide +kernel) rfl (keepF_dep [10, 9, 6] (by decide +kernel) rfl keepF_nil)), ?_⟩
      refine G_e 12 rfl (by decide +kernel) (N_bi rfl h ?_)
      intro v w h
      refine ⟨keepF_dep [11, 10] (by decide +kernel) rfl (keepF_dep [11, 10, 9, 8] (by decide +kernel) rfl (keepF_dep [11, 10, 9, 6] (by decide +kernel) rfl keepF_nil)), ?_⟩
      refine G_p 13 rfl (by decide +kernel) (Y_as h) ?_
      intro v h
      refine G_done (by decide +kernel) ?_
      refine E_n ?_
      refine L_region ?_
      refine L_mv ?_
      refine L_mv ?_
      refine L_u (N_mf h) ?_
      intro v w h
      refine L_u (P_fa fo104_1 h) ?_
      intro v w h
      refine L_u (P_ld sc9 h) ?_
      intro v w h
      refine L_u (N_cl Tryd.func95 rfl nn95 (fun w Q h => s95 _ _ _ w Q h) h) ?_
      intro v w h
      refine L_u (N_bi rfl h) ?_
      intro v w h
      refine L_as ?_
      refine L_nil ?_
      refine B_n ?_
      refine E_n ?_
      refine L_region ?_
      refine L_u (P_ad h) ?_
      intro v w h
      refine L_mv ?_
      refine L_nil ?_
      refine E_n ?_
      exact L2 _ _ h
    · refine C_exit ?_
      refine E_x ?_
      refine E_x ?_
      refine B_x ?_
      exact J1 _ _ h
  · unfold f75_j1 at h
    refine E_n ?_
    refine wp_seq ?_
    refine L_region ?_
    refine L_mv ?_
    refine L_u (N_cl Tryd.func13 rfl nn13 (fun w Q h => s13 _ w Q h) h) ?_
    intro v w h
    refine L_mv ?_
    refine L_u (P_ex h) ?_
    intro v w h
    refine L_u (P_ex h) ?_
    intro v w h
    refine L_as ?_
    refine L_as ?_
    refine L_nil ?_
    refine E_n ?_
    refine wp_seq ?_
    refine L_region ?_
    refine L_mv ?_
    refine L_mv ?_
    refine L_u (N_cl Tryd.func100 rfl nn100 (fun w Q h => s100 _ _ _ w Q h) h) ?_
    intro v w h
    refine L_u (N_bsl h) ?_
    intro v w h
    refine L_mv ?_
    refine L_u (N_bi rfl h) ?_
    intro v w h
    refine L_as ?_
    refine L_nil ?_
    refine E_n ?_
    refine wp_seq ?_
    refine L_region ?_
    refine L_mv ?_
    refine L_mv ?_
    refine L_u (P_nc h) ?_
    intro v w h
    refine L_u (P_fa fo110_0 h) ?_
    intro v w h
    refine L_u (P_ld sc58 h) ?_
    intro v w h
    refine L_u (N_mf h) ?_
    intro v w h
    refine L_u (N_bsl h) ?_
    intro v w h
    refine L_u (N_bi rfl h) ?_
    intro v w h
    refine L_mv ?_
    refine L_u (N_cl Tryd.func97 rfl nn97 (fun w Q h => s97 _ _ w Q h) h) ?_
    intro v w h
    refine L_u (N_bi rfl h) ?_
    intro v w h
    refine L_as ?_
    refine L_nil ?_
    refine E_n ?_
    refine wp_seq ?_
    refine C_join (fun (k : Value → Value → M) (ρ : Nat → Value) => k (ρ 0) (ρ 12)) h (fun j3 J3 h => ?_) (fun ρ w h => ?_)
    · refine D_region (by decide +kernel) 11 rfl ?_
      replace h := dr_e h
      refine G_p 0 rfl (by decide +kernel) (Y_mv h) ?_
      intro v h
      refine G_p 1 rfl (by decide +kernel) (Y_mv h) ?_
      intro v h
      refine G_p 3 rfl (by decide +kernel) (Y_mv h) ?_
      intro v h
      refine G_p 4 rfl (by decide +kernel) (Y_nc h) ?_
      intro v h
      refine G_p 5 rfl (by decide +kernel) (Y_fa fo110_0 h) ?_
      intro v h
      refine G_r _ 6 rfl (by decide +kernel) (R_ld sc58 h) ?_
      intro v h
      refine G_p 7 rfl (by decide +kernel) (Y_nmf h) ?_
      intro v h
      refine G_two (i := 2) (j := 8) (by decide +kernel) (G_op rfl (N_bi rfl (amb_1 h) ?_)) (G_op rfl (N_bsl (amb_2 h) ?_))
      · intro v w h
        refine ⟨keepF_cons (kp_1 h) keepF_nil, ?_⟩
        replace h := (kp_2 h)
        refine G_e 8 rfl (by decide +kernel) (N_bsl h ?_)
        intro v w h
        refine ⟨keepF_dep [7, 6] (by decide +kernel) rfl keepF_nil, ?_⟩
        refine G_e 9 rfl (by decide +kernel) (N_bi rfl h ?_)
        intro v w h
        refine ⟨keepF_dep [8, 7, 6] (by decide +kernel) rfl keepF_nil, ?_⟩
        refine G_p 10 rfl (by decide +kernel) (Y_as h) ?_
        intro v h
        refine G_done (by decide +kernel) ?_
        exact J3 _ _ h
      · intro v w h
        refine ⟨keepF_dep [7, 6] (by decide +kernel) rfl keepF_nil, ?_⟩
        refine G_e 2 rfl (by decide +kernel) (N_bi rfl h ?_)
        intro v w h
        refine ⟨keepF_cons (kp_1 h) keepF_nil, ?_⟩
        replace h := (kp_2 h)
        refine G_e 9 rfl (by decide +kernel) (N_bi rfl h ?_)
        intro v w h
        refine ⟨keepF_dep [8, 7, 6] (by decide +kernel) rfl keepF_nil, ?_⟩
        refine G_p 10 rfl (by decide +kernel) (Y_as h) ?_
        intro v h
        refine G_done (by decide +kernel) ?_
        exact J3 _ _ h
    · unfold f75_j3 at h
      refine E_n ?_
      refine wp_seq ?_
      refine L_region ?_
      refine L_mv ?_
      refine L_mv ?_
      refine L_u (N_cl Tryd.func97 rfl nn97 (fun w Q h => s97 _ _ w Q h) h) ?_
      intro v w h
      refine L_u (N_bi rfl h) ?_
      intro v w h
      refine L_as ?_
      refine L_nil ?_
      refine E_n ?_
      refine C_ret ?_
      show bodyPost Tryd.prog Tryd.f75 (Rt Q) .ret _ _
      exact post_tmps (ts := [4]) (.inr rfl) rfl h

/- (*factotum/pager.Pager).Commit -/
def f45_b2 (j1 : Value → M) (self2 : Value → Value → Value → Value → M) (t0_1 t32 t33_1 t34 : Value) : M :=
  lt .i64 t34 t33_1 fun t35 =>
  cnd t35 (
    ia 2 t32 t34 fun t36 =>
    ldn 2 t36 fun t37 =>
    al 104 #[(.int .i64 0), (.string ⟨#[]⟩)] fun t8 =>
    stn 2 t8 t37 <|
    dr <|
    idv t0_1 fun t38 =>
    nc t38 fun t39 =>
    fa 1 t39 fun t40 =>
    ld t40 fun t41 =>
    fa 0 t8 fun t42 =>
    ld t42 fun t43 =>
    fa 1 t8 fun t44 =>
    ld t44 fun t45 =>
    ia 1 t41 t43 fun t46 =>
    st t46 t45 <|
    ad .i64 t34 (.int .i64 1) fun t47 =>
    self2 t0_1 t32 t33_1 t47
    ) (
    j1 t0_1
    )
def f45_j1 (t0_2 : Value) : M :=
  nc t0_2 fun t49 =>
  fa 3 t49 fun t50 =>
  ld t50 fun t51 =>
  ad .i64 t51 (.int .i64 1) fun t52 =>
  nc t0_2 fun t53 =>
  fa 3 t53 fun t54 =>
  st t54 t52 <|
  rt (.int .i64 0)
def f45 (t0 t1 : Value) : M :=
  smr Tryd.prog (do eqGuard .eql 49 (.tmp 9) (.const (.pointer none)) t0 (.pointer none); binOp .eql 49 t0 (.pointer none)) fun t10 =>
  cnd t10 (
    rt (.int .i64 1)
    ) (
    cl (f73 t0 t1) fun t13 =>
    nei .i64 t13 (.int .i64 0) fun t15 =>
    gd t15 false (idv t1) fun t17 =>
    gd t15 false (lnl t17) fun t18 =>
    gd t15 false (eqi .i64 t18 (.int .i64 0)) fun t19 =>
    pk t15 (.bool true) t19 fun t20 =>
    cnd t20 (
      rt t13
      ) (
      cl (f75 t0 t1) fun t24 =>
      cl (f74 t24) fun t25 =>
      nei .i64 t25 (.int .i64 0) fun t27 =>
      cnd t27 (
        nc t0 fun t29 =>
        fa 2 t29 fun t30 =>
        st t30 (.bool true) <|
        rt t25
        ) (
        lnl t1 fun t33 =>
        jn (fun (j1 : Value → M) =>
          lo (fun _ _ _ _ => bot) (f45_b2 j1) (fun l => l t0 t1 t33 (.int .i64 0))
          ) (f45_j1)
        )
      )
    )
theorem s45 (t0 t1 : Value) (w : World) (Q : Value → World → Prop) (h : f45 t0 t1 w Q) : Calls Tryd.prog 45 #[t0, t1] w (Rt Q) := by
  refine calls_of (l := [t0, t1]) Tryd.func45 rfl Tryd.ntmps45 (Nat.le_of_ble_eq_true rfl) ?_
  unfold f45 at h
  refine wp_seq ?_
  refine L_region ?_
  refine L_as ?_
  refine L_nil ?_
  refine E_n ?_
  refine wp_seq ?_
  refine wp_seq ?_
  refine L_region ?_
  refine L_mv ?_
  refine L_u (P_smr rfl h) ?_
  intro v w h
  refine L_nil ?_
  refine E_n ?_
  refine C_cnd h (fun h => ?_) (fun h => ?_)
  · refine wp_seq ?_
    refine L_region ?_
    refine L_as ?_
    refine L_nil ?_
    refine E_n ?_
    refine C_ret ?_
    show bodyPost Tryd.prog Tryd.f45 (Rt Q) .ret _ _
    exact post_tmps (ts := [4]) (.inr rfl) rfl h
  · refine C_skip ?_
    refine E_n ?_
    refine wp_seq ?_
    refine wp_seq ?_
    refine L_region ?_
    refine L_mv ?_
    refine L_mv ?_
    refine L_u (N_cl Tryd.func73 rfl nn73 (fun w Q h => s73 _ _ w Q h) h) ?_
    intro v w h
    refine L_as ?_
    refine L_nil ?_
    refine E_n ?_
    refine wp_seq ?_
    refine L_region ?_
    refine L_mv ?_
    refine L_u (P_nei h) ?_
    intro v w h
    refine L_mv ?_
    refine L_g (t := 16) h rfl rfl (fun c h => P_mv h c) ?_
    intro v w h
    refine L_g (t := 16) h rfl rfl (fun c h => P_lnl is69 h c) ?_
    intro v w h
    refine L_g (t := 16) h rfl rfl (fun c h => P_eqi h c) ?_
    intro v w h
    refine L_u (P_pk h) ?_
    intro v w h
    refine L_nil ?_
    refine E_n ?_
    refine C_cnd h (fun h => ?_) (fun h => ?_)
    · refine wp_seq ?_
      refine L_region ?_
      refine L_mv ?_
      refine L_as ?_
      refine L_nil ?_
      refine E_n ?_
      refine C_ret ?_
      show bodyPost Tryd.prog Tryd.f45 (Rt Q) .ret _ _
      exact post_tmps (ts := [4]) (.inr rfl) rfl h
    · refine C_skip ?_
      refine E_n ?_
      refine wp_seq ?_
      refine wp_seq ?_
      refine L_region ?_
      refine L_mv ?_
      refine L_mv ?_
      refine L_u (N_cl Tryd.func75 rfl nn75 (fun w Q h => s75 _ _ w Q h) h) ?_
      intro v w h
      refine L_u (N_cl Tryd.func74 rfl nn74 (fun w Q h => s74 _ w Q h) h) ?_
      intro v w h
      refine L_as ?_
      refine L_nil ?_
      refine E_n ?_
      refine wp_seq ?_
      refine L_region ?_
      refine L_mv ?_
      refine L_u (P_nei h) ?_
      intro v w h
      refine L_nil ?_
      refine E_n ?_
      refine C_cnd h (fun h => ?_) (fun h => ?_)
      · refine wp_seq ?_
        refine L_region ?_
        refine L_mv ?_
        refine L_u (P_nc h) ?_
        intro v w h
        refine L_u (P_fa fo110_2 h) ?_
        intro v w h
        refine L_u (P_st on4 h) ?_
        intro w h
        refine L_nil ?_
        refine E_n ?_
        refine wp_seq ?_
        refine L_region ?_
        refine L_mv ?_
        refine L_as ?_
        refine L_nil ?_
        refine E_n ?_
        refine C_ret ?_
        show bodyPost Tryd.prog Tryd.f45 (Rt Q) .ret _ _
        exact post_tmps (ts := [4]) (.inr rfl) rfl h
      · refine C_skip ?_
        refine E_n ?_
        refine wp_seq ?_
        refine wp_seq ?_
        refine L_region ?_
        refine L_mv ?_
        refine L_u (P_lnl is69 h) ?_
        intro v w h
        refine L_mv ?_
        refine L_nil ?_
        refine E_n ?_
        refine C_join (fun (k : Value → M) (ρ : Nat → Value) => k (ρ 0)) h (fun j1 J1 h => ?_) (fun ρ w h => ?_)
        · refine C_blk ?_
          refine C_lo (fun (l : Value → Value → Value → Value → M) (ρ : Nat → Value) => l (ρ 0) (ρ 32) (ρ 33) (ρ 34)) h (fun ρ w h => h) (fun nx self2 L2 ρ w h => ?_)
          unfold f45_b2 at h
          refine wp_seq ?_
          refine L_region ?_
          refine L_u (P_lt h) ?_
          intro v w h
          refine L_nil ?_
          refine E_n ?_
          refine wp_seq ?_
          refine C_cnd h (fun h => ?_) (fun h => ?_)
          · refine C_skip ?_
            refine E_n ?_
            refine wp_seq ?_
            refine C_blk ?_
            refine wp_seq ?_
            refine L_region ?_
            refine L_u (P_ia se69 h) ?_
            intro v w h
            refine L_u (P_ldn ag104 h) ?_
            intro v w h
            refine L_u (P_al ze104 rfl h) ?_
            intro v w h
            refine L_u (P_stn ag104 h) ?_
            intro w h
            refine L_nil ?_
            refine E_n ?_
            refine D_region (by decide +kernel) 10 rfl ?_
            replace h := dr_e h
            refine G_p 0 rfl (by decide +kernel) (Y_mv h) ?_
            intro v h
            refine G_p 1 rfl (by decide +kernel) (Y_nc h) ?_
            intro v h
            refine G_p 2 rfl (by decide +kernel) (Y_fa fo110_1 h) ?_
            intro v h
            refine G_r _ 3 rfl (by decide +kernel) (R_ld sc39 h) ?_
            intro v h
            refine G_p 4 rfl (by decide +kernel) (Y_fa fo104_0 h) ?_
            intro v h
            refine G_r _ 5 rfl (by decide +kernel) (R_ld sc3 h) ?_
            intro v h
            refine G_p 6 rfl (by decide +kernel) (Y_fa fo104_1 h) ?_
            intro v h
            refine G_r _ 7 rfl (by decide +kernel) (R_ld sc9 h) ?_
            intro v h
            refine G_p 8 rfl (by decide +kernel) (Y_ia se39 h) ?_
            intro v h
            refine G_e 9 rfl (by decide +kernel) (P_st on9 h ?_)
            intro w h
            refine ⟨keepF_dep [7] (by decide +kernel) rfl (keepF_dep [5] (by decide +kernel) rfl (keepF_dep [3] (by decide +kernel) rfl keepF_nil)), ?_⟩
            refine G_done (by decide +kernel) ?_
            refine B_n ?_
            refine E_n ?_
            refine L_region ?_
            refine L_u (P_ad h) ?_
            intro v w h
            refine L_mv ?_
            refine L_nil ?_
            refine E_n ?_
            exact L2 _ _ h
          · refine C_exit ?_
            refine E_x ?_
            refine E_x ?_
            refine B_x ?_
            exact J1 _ _ h
        · unfold f45_j1 at h
          refine E_n ?_
          refine wp_seq ?_
          refine L_region ?_
          refine L_mv ?_
          refine L_u (P_nc h) ?_
          intro v w h
          refine L_u (P_fa fo110_3 h) ?_
          intro v w h
          refine L_u (P_ld sc3 h) ?_
          intro v w h
          refine L_u (P_ad h) ?_
          intro v w h
          refine L_u (P_nc h) ?_
          intro v w h
          refine L_u (P_fa fo110_3 h) ?_
          intro v w h
          refine L_u (P_st on3 h) ?_
          intro w h
          refine L_nil ?_
          refine E_n ?_
          refine wp_seq ?_
          refine L_region ?_
          refine L_as ?_
          refine L_nil ?_
          refine E_n ?_
          refine C_ret ?_
          show bodyPost Tryd.prog Tryd.f45 (Rt Q) .ret _ _
          exact post_tmps (ts := [4]) (.inr rfl) rfl h

/- (*factotum/pager.Pager).Commits -/
def f47 (t0 : Value) : M :=
  smr Tryd.prog (do eqGuard .eql 49 (.tmp 3) (.const (.pointer none)) t0 (.pointer none); binOp .eql 49 t0 (.pointer none)) fun t4 =>
  cnd t4 (
    rt (.int .i64 0)
    ) (
    nc t0 fun t6 =>
    fa 3 t6 fun t7 =>
    ld t7 fun t8 =>
    rt t8
    )
theorem s47 (t0 : Value) (w : World) (Q : Value → World → Prop) (h : f47 t0 w Q) : Calls Tryd.prog 47 #[t0] w (Rt Q) := by
  refine calls_of (l := [t0]) Tryd.func47 rfl Tryd.ntmps47 (Nat.le_of_ble_eq_true rfl) ?_
  unfold f47 at h
  refine wp_seq ?_
  refine L_region ?_
  refine L_as ?_
  refine L_nil ?_
  refine E_n ?_
  refine wp_seq ?_
  refine wp_seq ?_
  refine L_region ?_
  refine L_mv ?_
  refine L_u (P_smr rfl h) ?_
  intro v w h
  refine L_nil ?_
  refine E_n ?_
  refine C_cnd h (fun h => ?_) (fun h => ?_)
  · refine wp_seq ?_
    refine L_region ?_
    refine L_as ?_
    refine L_nil ?_
    refine E_n ?_
    refine C_ret ?_
    show bodyPost Tryd.prog Tryd.f47 (Rt Q) .ret _ _
    exact post_tmps (ts := [2]) (.inr rfl) rfl h
  · refine C_skip ?_
    refine E_n ?_
    refine wp_seq ?_
    refine L_region ?_
    refine L_mv ?_
    refine L_u (P_nc h) ?_
    intro v w h
    refine L_u (P_fa fo110_3 h) ?_
    intro v w h
    refine L_u (P_ld sc3 h) ?_
    intro v w h
    refine L_as ?_
    refine L_nil ?_
    refine E_n ?_
    refine C_ret ?_
    show bodyPost Tryd.prog Tryd.f47 (Rt Q) .ret _ _
    exact post_tmps (ts := [2]) (.inr rfl) rfl h

/- factotum/factotumlaw06.fill -/
def f67_b2 (j1 : Value → M) (self2 : Value → Value → Value → M) (t0_1 t3 t4 : Value) : M :=
  lnl t3 fun t8 =>
  lt .i64 t4 t8 fun t9 =>
  cnd t9 (
    ia 1 t3 t4 fun t15 =>
    st t15 t0_1 <|
    ad .i64 t4 (.int .i64 1) fun t11 =>
    self2 t0_1 t3 t11
    ) (
    j1 t3
    )
def f67_j1 (t3_1 : Value) : M :=
  smr Tryd.prog (convert 66 9 t3_1) fun t17 =>
  rt t17
def f67 (t0 : Value) : M :=
  sm Tryd.prog (Instr.makeSlice 66 (.int .i64 256) (.int .i64 256)) fun t5 =>
  jn (fun (j1 : Value → M) =>
    lo (fun _ _ _ => bot) (f67_b2 j1) (fun l => l t0 t5 (.int .i64 0))
    ) (f67_j1)
theorem s67 (t0 : Value) (w : World) (Q : Value → World → Prop) (h : f67 t0 w Q) : Calls Tryd.prog 67 #[t0] w (Rt Q) := by
  refine calls_of (l := [t0]) Tryd.func67 rfl Tryd.ntmps67 (Nat.le_of_ble_eq_true rfl) ?_
  unfold f67 at h
  refine wp_seq ?_
  refine L_region ?_
  refine L_as ?_
  refine L_nil ?_
  refine E_n ?_
  refine wp_seq ?_
  refine L_region ?_
  refine L_u (P_sm rfl h) ?_
  intro v w h
  refine L_as ?_
  refine L_nil ?_
  refine E_n ?_
  refine wp_seq ?_
  refine wp_seq ?_
  refine L_region ?_
  refine L_as ?_
  refine L_nil ?_
  refine E_n ?_
  refine C_join (fun (k : Value → M) (ρ : Nat → Value) => k (ρ 3)) h (fun j1 J1 h => ?_) (fun ρ w h => ?_)
  · refine C_blk ?_
    refine C_lo (fun (l : Value → Value → Value → M) (ρ : Nat → Value) => l (ρ 0) (ρ 3) (ρ 4)) h (fun ρ w h => h) (fun nx self2 L2 ρ w h => ?_)
    unfold f67_b2 at h
    refine wp_seq ?_
    refine wp_seq ?_
    refine L_region ?_
    refine L_mv ?_
    refine L_mv ?_
    refine L_u (P_lnl is66 h) ?_
    intro v w h
    refine L_u (P_lt h) ?_
    intro v w h
    refine L_nil ?_
    refine E_n ?_
    refine C_cnd h (fun h => ?_) (fun h => ?_)
    · refine C_skip ?_
      refine E_n ?_
      refine wp_seq ?_
      refine C_blk ?_
      refine L_region ?_
      refine L_mv ?_
      refine L_mv ?_
      refine L_mv ?_
      refine L_u (P_ia se66 h) ?_
      intro v w h
      refine L_u (P_st on5 h) ?_
      intro w h
      refine L_nil ?_
      refine B_n ?_
      refine E_n ?_
      refine L_region ?_
      refine L_mv ?_
      refine L_u (P_ad h) ?_
      intro v w h
      refine L_as ?_
      refine L_nil ?_
      refine E_n ?_
      exact L2 _ _ h
    · refine C_exit ?_
      refine E_x ?_
      refine E_x ?_
      refine B_x ?_
      exact J1 _ _ h
  · unfold f67_j1 at h
    refine E_n ?_
    refine wp_seq ?_
    refine L_region ?_
    refine L_mv ?_
    refine L_u (P_smr rfl h) ?_
    intro v w h
    refine L_as ?_
    refine L_nil ?_
    refine E_n ?_
    refine C_ret ?_
    show bodyPost Tryd.prog Tryd.f67 (Rt Q) .ret _ _
    exact post_tmps (ts := [2]) (.inr rfl) rfl h

/- factotum/factotumlaw06.lives -/
def f36 : M :=
  cl (f22 (.int .i64 3)) fun t8 =>
  cl (f37 t8) fun t9 =>
  cl (f38 t9 (.int .i64 3)) fun t12 =>
  ex 0 t12 fun t13 =>
  ex 1 t12 fun t14 =>
  nei .i64 t14 (.int .i64 0) fun t16 =>
  gd t16 false (idv t13) fun t18 =>
  gd t16 false (smr Tryd.prog (do eqGuard .eql 49 (.tmp 18) (.const (.pointer none)) t18 (.pointer none); binOp .eql 49 t18 (.pointer none))) fun t19 =>
  pk t16 (.bool true) t19 fun t20 =>
  gd t20 false (idv t13) fun t22 =>
  gd t20 false (cl (f67 (.int .u8 7))) fun t23 =>
  gd t20 false (smr Tryd.prog (Instr.build 104 #[(0, (.int .i64 1)), (1, t23)])) fun t24 =>
  gd t20 false (sm Tryd.prog (Instr.buildSlice 69 1 #[(0, t24)])) fun t25 =>
  gd t20 false (cl (f45 t22 t25)) fun t26 =>
  gd t20 false (nei .i64 t26 (.int .i64 0)) fun t27 =>
  pk t20 (.bool true) t27 fun t28 =>
  cnd t28 (
    rt (.bool false)
    ) (
    cl (f38 t9 (.int .i64 3)) fun t31 =>
    ex 0 t31 fun t32 =>
    ex 1 t31 fun t33 =>
    cl (f44 t32 (.int .i64 1)) fun t36 =>
    ex 0 t36 fun t37 =>
    ex 1 t36 fun t38 =>
    eqi .i64 t33 (.int .i64 0) fun t40 =>
    gd t40 true (idv t38) fun t42 =>
    gd t40 true (eqi .i64 t42 (.int .i64 0)) fun t43 =>
    pk t40 t43 (.bool false) fun t44 =>
    gd t44 true (idv t37) fun t46 =>
    gd t44 true (cl (f67 (.int .u8 7))) fun t47 =>
    gd t44 true (eqs t46 t47) fun t48 =>
    pk t44 t48 (.bool false) fun t49 =>
    gd t49 true (idv t13) fun t51 =>
    gd t49 true (cl (f47 t51)) fun t52 =>
    gd t49 true (eqi .i64 t52 (.int .i64 1)) fun t53 =>
    pk t49 t53 (.bool false) fun t54 =>
    gd t54 true (idv t32) fun t56 =>
    gd t54 true (cl (f46 t56)) fun t57 =>
    gd t54 true (eqi .i64 t57 (.int .i64 3)) fun t58 =>
    pk t54 t58 (.bool false) fun t59 =>
    rt t59
    )
theorem s36 (w : World) (Q : Value → World → Prop) (h : f36 w Q) : Calls Tryd.prog 36 #[] w (Rt Q) := by
  refine calls_of (l := []) Tryd.func36 rfl Tryd.ntmps36 (Nat.le_of_ble_eq_true rfl) ?_
  unfold f36 at h
  refine wp_seq ?_
  refine L_region ?_
  refine L_as ?_
  refine L_nil ?_
  refine E_n ?_
  refine wp_seq ?_
  refine L_region ?_
  refine L_u (N_cl Tryd.func22 rfl nn22 (fun w Q h => s22 _ w Q h) h) ?_
  intro v w h
  refine L_u (N_cl Tryd.func37 rfl nn37 (fun w Q h => s37 _ w Q h) h) ?_
  intro v w h
  refine L_as ?_
  refine L_nil ?_
  refine E_n ?_
  refine wp_seq ?_
  refine L_region ?_
  refine L_mv ?_
  refine L_u (N_cl Tryd.func38 rfl nn38 (fun w Q h => s38 _ _ w Q h) h) ?_
  intro v w h
  refine L_mv ?_
  refine L_u (P_ex h) ?_
  intro v w h
  refine L_u (P_ex h) ?_
  intro v w h
  refine L_as ?_
  refine L_as ?_
  refine L_nil ?_
  refine E_n ?_
  refine wp_seq ?_
  refine wp_seq ?_
  refine L_region ?_
  refine L_mv ?_
  refine L_u (P_nei h) ?_
  intro v w h
  refine L_mv ?_
  refine L_g (t := 17) h rfl rfl (fun c h => P_mv h c) ?_
  intro v w h
  refine L_g (t := 17) h rfl rfl (fun c h => P_smr rfl h c) ?_
  intro v w h
  refine L_u (P_pk h) ?_
  intro v w h
  refine L_mv ?_
  refine L_g (t := 21) h rfl rfl (fun c h => P_mv h c) ?_
  intro v w h
  refine L_g (t := 21) h rfl rfl (fun c h => N_cl Tryd.func67 rfl nn67 (fun w Q h => s67 _ w Q h) h c) ?_
  intro v w h
  refine L_g (t := 21) h rfl rfl (fun c h => N_bld h c) ?_
  intro v w h
  refine L_g (t := 21) h rfl rfl (fun c h => N_bsl h c) ?_
  intro v w h
  refine L_g (t := 21) h rfl rfl (fun c h => N_cl Tryd.func45 rfl nn45 (fun w Q h => s45 _ _ w Q h) h c) ?_
  intro v w h
  refine L_g (t := 21) h rfl rfl (fun c h => P_nei h c) ?_
  intro v w h
  refine L_u (P_pk h) ?_
  intro v w h
  refine L_nil ?_
  refine E_n ?_
  refine C_cnd h (fun h => ?_) (fun h => ?_)
  · refine wp_seq ?_
    refine L_region ?_
    refine L_as ?_
    refine L_nil ?_
    refine E_n ?_
    refine C_ret ?_
    show bodyPost Tryd.prog Tryd.f36 (Rt Q) .ret _ _
    exact post_tmps (ts := [0]) (.inr rfl) rfl h
  · refine C_skip ?_
    refine E_n ?_
    refine wp_seq ?_
    refine L_region ?_
    refine L_mv ?_
    refine L_u (N_cl Tryd.func38 rfl nn38 (fun w Q h => s38 _ _ w Q h) h) ?_
    intro v w h
    refine L_mv ?_
    refine L_u (P_ex h) ?_
    intro v w h
    refine L_u (P_ex h) ?_
    intro v w h
    refine L_as ?_
    refine L_as ?_
    refine L_nil ?_
    refine E_n ?_
    refine wp_seq ?_
    refine L_region ?_
    refine L_mv ?_
    refine L_u (N_cl Tryd.func44 rfl nn44 (fun w Q h => s44 _ _ w Q h) h) ?_
    intro v w h
    refine L_mv ?_
    refine L_u (P_ex h) ?_
    intro v w h
    refine L_u (P_ex h) ?_
    intro v w h
    refine L_as ?_
    refine L_as ?_
    refine L_nil ?_
    refine E_n ?_
    refine wp_seq ?_
    refine L_region ?_
    refine L_mv ?_
    refine L_u (P_eqi h) ?_
    intro v w h
    refine L_mv ?_
    refine L_g (t := 41) h rfl rfl (fun c h => P_mv h c) ?_
    intro v w h
    refine L_g (t := 41) h rfl rfl (fun c h => P_eqi h c) ?_
    intro v w h
    refine L_u (P_pk h) ?_
    intro v w h
    refine L_mv ?_
    refine L_g (t := 45) h rfl rfl (fun c h => P_mv h c) ?_
    intro v w h
    refine L_g (t := 45) h rfl rfl (fun c h => N_cl Tryd.func67 rfl nn67 (fun w Q h => s67 _ w Q h) h c) ?_
    intro v w h
    refine L_g (t := 45) h rfl rfl (fun c h => P_eqs h c) ?_
    intro v w h
    refine L_u (P_pk h) ?_
    intro v w h
    refine L_mv ?_
    refine L_g (t := 50) h rfl rfl (fun c h => P_mv h c) ?_
    intro v w h
    refine L_g (t := 50) h rfl rfl (fun c h => N_cl Tryd.func47 rfl nn47 (fun w Q h => s47 _ w Q h) h c) ?_
    intro v w h
    refine L_g (t := 50) h rfl rfl (fun c h => P_eqi h c) ?_
    intro v w h
    refine L_u (P_pk h) ?_
    intro v w h
    refine L_mv ?_
    refine L_g (t := 55) h rfl rfl (fun c h => P_mv h c) ?_
    intro v w h
    refine L_g (t := 55) h rfl rfl (fun c h => N_cl Tryd.func46 rfl nn46 (fun w Q h => s46 _ w Q h) h c) ?_
    intro v w h
    refine L_g (t := 55) h rfl rfl (fun c h => P_eqi h c) ?_
    intro v w h
    refine L_u (P_pk h) ?_
    intro v w h
    refine L_as ?_
    refine L_nil ?_
    refine E_n ?_
    refine C_ret ?_
    show bodyPost Tryd.prog Tryd.f36 (Rt Q) .ret _ _
    exact post_tmps (ts := [0]) (.inr rfl) rfl h

/- factotum/factotumlaw06.PagerOpens -/
def f10_j3 (self2 : Value → Value → Value → Value → Value → M) (t1_2 t7_1 t10_1 t11_1 t12_1 : Value) : M :=
  ad .i64 t12_1 (.int .i64 1) fun t78 =>
  self2 t1_2 t7_1 t10_1 t11_1 t78
def f10_b2 (j1 : Value → Value → Value → M) (self2 : Value → Value → Value → Value → Value → M) (t1_1 t7 t10 t11 t12 : Value) : M :=
  lnl t10 fun t75 =>
  lt .i64 t12 t75 fun t76 =>
  cnd t76 (
    ia 1 t10 t12 fun t81 =>
    ld t81 fun t82 =>
    ge .i64 t82 t1_1 fun t84 =>
    jn (fun (j3 : Value → Value → Value → Value → Value → M) =>
      cnd t84 (
        j3 t1_1 t7 t10 (.int .i64 10) t12
        ) (
        j3 t1_1 t7 t10 t11 t12
        )
      ) (f10_j3 self2)
    ) (
    j1 t1_1 t7 t11
    )
def f10_j1 (t1_3 t7_2 t11_2 : Value) : M :=
  cl (f38 t7_2 t1_3) fun t88 =>
  ex 0 t88 fun t89 =>
  ex 1 t88 fun t90 =>
  eqi .i64 t90 t11_2 fun t93 =>
  gd t93 true (idv t89) fun t95 =>
  gd t93 true (smr Tryd.prog (do eqGuard .neq 49 (.tmp 95) (.const (.pointer none)) t95 (.pointer none); binOp .neq 49 t95 (.pointer none))) fun t96 =>
  gd t93 true (idv t90) fun t97 =>
  gd t93 true (eqi .i64 t97 (.int .i64 0)) fun t98 =>
  gd t93 true (eqb t96 t98) fun t99 =>
  pk t93 t99 (.bool false) fun t100 =>
  rt t100
def f10 (t0 t1 t2 : Value) : M :=
  cl (f36) fun t13 =>
  nt t13 fun t14 =>
  cnd t14 (
    rt (.bool false)
    ) (
    cl (f37 t0) fun t16 =>
    cl (f38 t16 t1) fun t20 =>
    ex 0 t20 fun t21 =>
    ex 1 t20 fun t22 =>
    lt .i64 t1 (.int .i64 1) fun t24 =>
    gd t24 false (idv t1) fun t26 =>
    gd t24 false (gt .i64 t26 (.int .i64 160)) fun t27 =>
    pk t24 (.bool true) t27 fun t28 =>
    gd t28 false (idv t16) fun t30 =>
    gd t28 false (cl (f39 t30)) fun t31 =>
    gd t28 false (idv t1) fun t32 =>
    gd t28 false (mu .i64 (.int .i64 4) t32) fun t33 =>
    gd t28 false (ad .i64 (.int .i64 126) t33) fun t34 =>
    gd t28 false (lt .i64 t31 t34) fun t35 =>
    pk t28 (.bool true) t35 fun t36 =>
    cnd t36 (
      eqi .i64 t22 (.int .i64 1) fun t38 =>
      gd t38 true (idv t21) fun t40 =>
      gd t38 true (smr Tryd.prog (do eqGuard .eql 49 (.tmp 40) (.const (.pointer none)) t40 (.pointer none); binOp .eql 49 t40 (.pointer none))) fun t41 =>
      pk t38 t41 (.bool false) fun t42 =>
      rt t42
      ) (
      nei .i64 t22 (.int .i64 0) fun t44 =>
      gd t44 false (idv t2) fun t46 =>
      gd t44 false (lns t46) fun t47 =>
      gd t44 false (gt .i64 t47 (.int .i64 64)) fun t48 =>
      pk t44 (.bool true) t48 fun t49 =>
      cnd t49 (
        eqi .i64 t22 (.int .i64 0) fun t51 =>
        rt t51
        ) (
        cl (f40 t16 (.int .i64 1) t2) fun t54 =>
        nei .i64 t54 (.int .i64 0) fun t55 =>
        gd t55 false (idv t16) fun t57 =>
        gd t55 false (cl (f18 (.bool true))) fun t58 =>
        gd t55 false (cl (f40 t57 (.int .i64 0) t58)) fun t59 =>
        gd t55 false (nei .i64 t59 (.int .i64 0)) fun t60 =>
        pk t55 (.bool true) t60 fun t61 =>
        gd t61 false (idv t16) fun t63 =>
        gd t61 false (cl (f41 t63)) fun t64 =>
        gd t61 false (nei .i64 t64 (.int .i64 0)) fun t65 =>
        pk t61 (.bool true) t65 fun t66 =>
        cnd t66 (
          rt (.bool false)
          ) (
          cl (f42 t2) fun t69 =>
          cl (f16 t69) fun t70 =>
          ex 0 t70 fun t71 =>
          ex 1 t70 fun t72 =>
          jn (fun (j1 : Value → Value → Value → M) =>
            lo (fun _ _ _ _ _ => bot) (f10_b2 j1) (fun l => l t1 t16 t71 t72 (.int .i64 0))
            ) (f10_j1)
          )
        )
      )
    )
theorem s10 (t0 t1 t2 : Value) (w : World) (Q : Value → World → Prop) (h : f10 t0 t1 t2 w Q) : Calls Tryd.prog 10 #[t0, t1, t2] w (Rt Q) := by
  refine calls_of (l := [t0, t1, t2]) Tryd.func10 rfl Tryd.ntmps10 (Nat.le_of_ble_eq_true rfl) ?_
  unfold f10 at h
  refine wp_seq ?_
  refine L_region ?_
  refine L_as ?_
  refine L_nil ?_
  refine E_n ?_
  refine wp_seq ?_
  refine wp_seq ?_
  refine L_region ?_
  refine L_u (N_cl Tryd.func36 rfl nn36 (fun w Q h => s36 w Q h) h) ?_
  intro v w h
  refine L_u (P_nt h) ?_
  intro v w h
  refine L_nil ?_
  refine E_n ?_
  refine C_cnd h (fun h => ?_) (fun h => ?_)
  · refine wp_seq ?_
    refine L_region ?_
    refine L_as ?_
    refine L_nil ?_
    refine E_n ?_
    refine C_ret ?_
    show bodyPost Tryd.prog Tryd.f10 (Rt Q) .ret _ _
    exact post_tmps (ts := [6]) (.inr rfl) rfl h
  · refine C_skip ?_
    refine E_n ?_
    refine wp_seq ?_
    refine L_region ?_
    refine L_mv ?_
    refine L_u (N_cl Tryd.func37 rfl nn37 (fun w Q h => s37 _ w Q h) h) ?_
    intro v w h
    refine L_as ?_
    refine L_nil ?_
    refine E_n ?_
    refine wp_seq ?_
    refine L_region ?_
    refine L_mv ?_
    refine L_mv ?_
    refine L_u (N_cl Tryd.func38 rfl nn38 (fun w Q h => s38 _ _ w Q h) h) ?_
    intro v w h
    refine L_mv ?_
    refine L_u (P_ex h) ?_
    intro v w h
    refine L_u (P_ex h) ?_
    intro v w h
    refine L_as ?_
    refine L_as ?_
    refine L_nil ?_
    refine E_n ?_
    refine wp_seq ?_
    refine wp_seq ?_
    refine L_region ?_
    refine L_mv ?_
    refine L_u (P_lt h) ?_
    intro v w h
    refine L_mv ?_
    refine L_g (t := 25) h rfl rfl (fun c h => P_mv h c) ?_
    intro v w h
    refine L_g (t := 25) h rfl rfl (fun c h => P_gt h c) ?_
    intro v w h
    refine L_u (P_pk h) ?_
    intro v w h
    refine L_mv ?_
    refine L_g (t := 29) h rfl rfl (fun c h => P_mv h c) ?_
    intro v w h
    refine L_g (t := 29) h rfl rfl (fun c h => N_cl Tryd.func39 rfl nn39 (fun w Q h => s39 _ w Q h) h c) ?_
    intro v w h
    refine L_g (t := 29) h rfl rfl (fun c h => P_mv h c) ?_
    intro v w h
    refine L_g (t := 29) h rfl rfl (fun c h => P_mu h c) ?_
    intro v w h
    refine L_g (t := 29) h rfl rfl (fun c h => P_ad h c) ?_
    intro v w h
    refine L_g (t := 29) h rfl rfl (fun c h => P_lt h c) ?_
    intro v w h
    refine L_u (P_pk h) ?_
    intro v w h
    refine L_nil ?_
    refine E_n ?_
    refine C_cnd h (fun h => ?_) (fun h => ?_)
    · refine wp_seq ?_
      refine L_region ?_
      refine L_mv ?_
      refine L_u (P_eqi h) ?_
      intro v w h
      refine L_mv ?_
      refine L_g (t := 39) h rfl rfl (fun c h => P_mv h c) ?_
      intro v w h
      refine L_g (t := 39) h rfl rfl (fun c h => P_smr rfl h c) ?_
      intro v w h
      refine L_u (P_pk h) ?_
      intro v w h
      refine L_as ?_
      refine L_nil ?_
      refine E_n ?_
      refine C_ret ?_
      show bodyPost Tryd.prog Tryd.f10 (Rt Q) .ret _ _
      exact post_tmps (ts := [6]) (.inr rfl) rfl h
    · refine C_skip ?_
      refine E_n ?_
      refine wp_seq ?_
      refine wp_seq ?_
      refine L_region ?_
      refine L_mv ?_
      refine L_u (P_nei h) ?_
      intro v w h
      refine L_mv ?_
      refine L_g (t := 45) h rfl rfl (fun c h => P_mv h c) ?_
      intro v w h
      refine L_g (t := 45) h rfl rfl (fun c h => P_lns st9 h c) ?_
      intro v w h
      refine L_g (t := 45) h rfl rfl (fun c h => P_gt h c) ?_
      intro v w h
      refine L_u (P_pk h) ?_
      intro v w h
      refine L_nil ?_
      refine E_n ?_
      refine C_cnd h (fun h => ?_) (fun h => ?_)
      · refine wp_seq ?_
        refine L_region ?_
        refine L_mv ?_
        refine L_u (P_eqi h) ?_
        intro v w h
        refine L_as ?_
        refine L_nil ?_
        refine E_n ?_
        refine C_ret ?_
        show bodyPost Tryd.prog Tryd.f10 (Rt Q) .ret _ _
        exact post_tmps (ts := [6]) (.inr rfl) rfl h
      · refine C_skip ?_
        refine E_n ?_
        refine wp_seq ?_
        refine wp_seq ?_
        refine L_region ?_
        refine L_mv ?_
        refine L_mv ?_
        refine L_u (N_cl Tryd.func40 rfl nn40 (fun w Q h => s40 _ _ _ w Q h) h) ?_
        intro v w h
        refine L_u (P_nei h) ?_
        intro v w h
        refine L_mv ?_
        refine L_g (t := 56) h rfl rfl (fun c h => P_mv h c) ?_
        intro v w h
        refine L_g (t := 56) h rfl rfl (fun c h => N_cl Tryd.func18 rfl nn18 (fun w Q h => s18 _ w Q h) h c) ?_
        intro v w h
        refine L_g (t := 56) h rfl rfl (fun c h => N_cl Tryd.func40 rfl nn40 (fun w Q h => s40 _ _ _ w Q h) h c) ?_
        intro v w h
        refine L_g (t := 56) h rfl rfl (fun c h => P_nei h c) ?_
        intro v w h
        refine L_u (P_pk h) ?_
        intro v w h
        refine L_mv ?_
        refine L_g (t := 62) h rfl rfl (fun c h => P_mv h c) ?_
        intro v w h
        refine L_g (t := 62) h rfl rfl (fun c h => N_cl Tryd.func41 rfl nn41 (fun w Q h => s41 _ w Q h) h c) ?_
        intro v w h
        refine L_g (t := 62) h rfl rfl (fun c h => P_nei h c) ?_
        intro v w h
        refine L_u (P_pk h) ?_
        intro v w h
        refine L_nil ?_
        refine E_n ?_
        refine C_cnd h (fun h => ?_) (fun h => ?_)
        · refine wp_seq ?_
          refine L_region ?_
          refine L_as ?_
          refine L_nil ?_
          refine E_n ?_
          refine C_ret ?_
          show bodyPost Tryd.prog Tryd.f10 (Rt Q) .ret _ _
          exact post_tmps (ts := [6]) (.inr rfl) rfl h
        · refine C_skip ?_
          refine E_n ?_
          refine wp_seq ?_
          refine L_region ?_
          refine L_mv ?_
          refine L_u (N_cl Tryd.func42 rfl nn42 (fun w Q h => s42 _ w Q h) h) ?_
          intro v w h
          refine L_u (N_cl Tryd.func16 rfl nn16 (fun w Q h => s16 _ w Q h) h) ?_
          intro v w h
          refine L_mv ?_
          refine L_u (P_ex h) ?_
          intro v w h
          refine L_u (P_ex h) ?_
          intro v w h
          refine L_as ?_
          refine L_as ?_
          refine L_nil ?_
          refine E_n ?_
          refine wp_seq ?_
          refine wp_seq ?_
          refine L_region ?_
          refine L_as ?_
          refine L_nil ?_
          refine E_n ?_
          refine C_join (fun (k : Value → Value → Value → M) (ρ : Nat → Value) => k (ρ 1) (ρ 7) (ρ 11)) h (fun j1 J1 h => ?_) (fun ρ w h => ?_)
          · refine C_blk ?_
            refine C_lo (fun (l : Value → Value → Value → Value → Value → M) (ρ : Nat → Value) => l (ρ 1) (ρ 7) (ρ 10) (ρ 11) (ρ 12)) h (fun ρ w h => h) (fun nx self2 L2 ρ w h => ?_)
            unfold f10_b2 at h
            refine wp_seq ?_
            refine wp_seq ?_
            refine L_region ?_
            refine L_mv ?_
            refine L_mv ?_
            refine L_u (P_lnl is22 h) ?_
            intro v w h
            refine L_u (P_lt h) ?_
            intro v w h
            refine L_nil ?_
            refine E_n ?_
            refine C_cnd h (fun h => ?_) (fun h => ?_)
            · refine C_skip ?_
              refine E_n ?_
              refine wp_seq ?_
              refine C_blk ?_
              refine wp_seq ?_
              refine L_region ?_
              refine L_mv ?_
              refine L_mv ?_
              refine L_u (P_ia se22 h) ?_
              intro v w h
              refine L_u (P_ld sc3 h) ?_
              intro v w h
              refine L_mv ?_
              refine L_u (P_ge h) ?_
              intro v w h
              refine L_nil ?_
              refine E_n ?_
              refine C_join (fun (k : Value → Value → Value → Value → Value → M) (ρ : Nat → Value) => k (ρ 1) (ρ 7) (ρ 10) (ρ 11) (ρ 12)) h (fun j3 J3 h => ?_) (fun ρ w h => ?_)
              · refine C_cnd h (fun h => ?_) (fun h => ?_)
                · refine L_region ?_
                  refine L_as ?_
                  refine L_nil ?_
                  exact J3 _ _ h
                · refine C_skip ?_
                  exact J3 _ _ h
              · unfold f10_j3 at h
                refine B_n ?_
                refine E_n ?_
                refine L_region ?_
                refine L_mv ?_
                refine L_u (P_ad h) ?_
                intro v w h
                refine L_as ?_
                refine L_nil ?_
                refine E_n ?_
                exact L2 _ _ h
            · refine C_exit ?_
              refine E_x ?_
              refine E_x ?_
              refine B_x ?_
              exact J1 _ _ h
          · unfold f10_j1 at h
            refine E_n ?_
            refine wp_seq ?_
            refine L_region ?_
            refine L_mv ?_
            refine L_mv ?_
            refine L_u (N_cl Tryd.func38 rfl nn38 (fun w Q h => s38 _ _ w Q h) h) ?_
            intro v w h
            refine L_mv ?_
            refine L_u (P_ex h) ?_
            intro v w h
            refine L_u (P_ex h) ?_
            intro v w h
            refine L_as ?_
            refine L_as ?_
            refine L_nil ?_
            refine E_n ?_
            refine wp_seq ?_
            refine L_region ?_
            refine L_mv ?_
            refine L_mv ?_
            refine L_u (P_eqi h) ?_
            intro v w h
            refine L_mv ?_
            refine L_g (t := 94) h rfl rfl (fun c h => P_mv h c) ?_
            intro v w h
            refine L_g (t := 94) h rfl rfl (fun c h => P_smr rfl h c) ?_
            intro v w h
            refine L_g (t := 94) h rfl rfl (fun c h => P_mv h c) ?_
            intro v w h
            refine L_g (t := 94) h rfl rfl (fun c h => P_eqi h c) ?_
            intro v w h
            refine L_g (t := 94) h rfl rfl (fun c h => P_eqb bo4 h c) ?_
            intro v w h
            refine L_u (P_pk h) ?_
            intro v w h
            refine L_as ?_
            refine L_nil ?_
            refine E_n ?_
            refine C_ret ?_
            show bodyPost Tryd.prog Tryd.f10 (Rt Q) .ret _ _
            exact post_tmps (ts := [6]) (.inr rfl) rfl h

/- (factotum/factotumlaw06.Batch).changes -/
def f43_j3 (self2 : Value → Value → Value → Value → M) (t1_2 t4_1 t5_1 t6_1 t7 : Value) : M :=
  dr <|
  idv t4_1 fun t27 =>
  fa 0 t1_2 fun t28 =>
  ld t28 fun t29 =>
  idv t6_1 fun t30 =>
  ia 1 t29 t30 fun t31 =>
  ld t31 fun t32 =>
  idv t7 fun t33 =>
  cl (f67 t33) fun t34 =>
  kp (Kld t31 t32) <|
  kp (Kld t28 t29) <|
  smr Tryd.prog (Instr.build 104 #[(0, t32), (1, t34)]) fun t35 =>
  sm Tryd.prog (Instr.buildSlice 69 1 #[(0, t35)]) fun t36 =>
  sm Tryd.prog (Builtin.append_ #[69, 69] 69 #[t27, t36]) fun t37 =>
  idv t37 fun t4_2 =>
  dr <|
  idv t5_1 fun t38 =>
  fa 0 t1_2 fun t39 =>
  ld t39 fun t40 =>
  idv t6_1 fun t41 =>
  ia 1 t40 t41 fun t42 =>
  ld t42 fun t43 =>
  idv t7 fun t44 =>
  cl (f67 t44) fun t45 =>
  kp (Kld t42 t43) <|
  kp (Kld t39 t40) <|
  smr Tryd.prog (Instr.build 114 #[(0, t43), (1, t45)]) fun t46 =>
  sm Tryd.prog (Instr.buildSlice 70 1 #[(0, t46)]) fun t47 =>
  sm Tryd.prog (Builtin.append_ #[70, 70] 70 #[t38, t47]) fun t48 =>
  idv t48 fun t5_2 =>
  ad .i64 t6_1 (.int .i64 1) fun t14 =>
  self2 t1_2 t4_2 t5_2 t14
def f43_b2 (j1 : Value → Value → M) (self2 : Value → Value → Value → Value → M) (t1_1 t4 t5 t6 : Value) : M :=
  fa 0 t1_1 fun t9 =>
  ld t9 fun t10 =>
  lnl t10 fun t11 =>
  lt .i64 t6 t11 fun t12 =>
  cnd t12 (
    cv .u8 t6 fun t16 =>
    fa 1 t1_1 fun t18 =>
    ld t18 fun t19 =>
    lnl t19 fun t20 =>
    lt .i64 t6 t20 fun t21 =>
    jn (fun (j3 : Value → Value → Value → Value → Value → M) =>
      cnd t21 (
        fa 1 t1_1 fun t22 =>
        ld t22 fun t23 =>
        ia 1 t23 t6 fun t25 =>
        ld t25 fun t26 =>
        j3 t1_1 t4 t5 t6 t26
        ) (
        j3 t1_1 t4 t5 t6 t16
        )
      ) (f43_j3 self2)
    ) (
    j1 t4 t5
    )
def f43_j1 (t4_3 t5_3 : Value) : M :=
  rt (.tuple #[t4_3, t5_3])
def f43 (t0 : Value) : M :=
  bx 68 t0 fun t1 =>
  jn (fun (j1 : Value → Value → M) =>
    lo (fun _ _ _ _ => bot) (f43_b2 j1) (fun l => l t1 (.slice none 0 0) (.slice none 0 0) (.int .i64 0))
    ) (f43_j1)
theorem s43 (t0 : Value) (w : World) (Q : Value → World → Prop) (h : f43 t0 w Q) : Calls Tryd.prog 43 #[t0] w (Rt Q) := by
  refine calls_of (l := [t0]) Tryd.func43 rfl Tryd.ntmps43 (Nat.le_of_ble_eq_true rfl) ?_
  unfold f43 at h
  refine wp_seq ?_
  refine L_region ?_
  refine L_u (P_bx h) ?_
  intro v w h
  refine L_as ?_
  refine L_as ?_
  refine L_nil ?_
  refine E_n ?_
  refine wp_seq ?_
  refine L_region ?_
  refine L_as ?_
  refine L_nil ?_
  refine E_n ?_
  refine wp_seq ?_
  refine L_region ?_
  refine L_as ?_
  refine L_nil ?_
  refine E_n ?_
  refine wp_seq ?_
  refine wp_seq ?_
  refine L_region ?_
  refine L_as ?_
  refine L_nil ?_
  refine E_n ?_
  refine C_join (fun (k : Value → Value → M) (ρ : Nat → Value) => k (ρ 4) (ρ 5)) h (fun j1 J1 h => ?_) (fun ρ w h => ?_)
  · refine C_blk ?_
    refine C_lo (fun (l : Value → Value → Value → Value → M) (ρ : Nat → Value) => l (ρ 1) (ρ 4) (ρ 5) (ρ 6)) h (fun ρ w h => h) (fun nx self2 L2 ρ w h => ?_)
    unfold f43_b2 at h
    refine wp_seq ?_
    refine wp_seq ?_
    refine L_region ?_
    refine L_mv ?_
    refine L_u (P_fa fo68_0 h) ?_
    intro v w h
    refine L_u (P_ld sc22 h) ?_
    intro v w h
    refine L_u (P_lnl is22 h) ?_
    intro v w h
    refine L_u (P_lt h) ?_
    intro v w h
    refine L_nil ?_
    refine E_n ?_
    refine C_cnd h (fun h => ?_) (fun h => ?_)
    · refine C_skip ?_
      refine E_n ?_
      refine wp_seq ?_
      refine C_blk ?_
      refine wp_seq ?_
      refine L_region ?_
      refine L_mv ?_
      refine L_u (P_cv ai3 in5 h) ?_
      intro v w h
      refine L_as ?_
      refine L_nil ?_
      refine E_n ?_
      refine wp_seq ?_
      refine wp_seq ?_
      refine L_region ?_
      refine L_mv ?_
      refine L_u (P_fa fo68_1 h) ?_
      intro v w h
      refine L_u (P_ld sc66 h) ?_
      intro v w h
      refine L_u (P_lnl is66 h) ?_
      intro v w h
      refine L_u (P_lt h) ?_
      intro v w h
      refine L_nil ?_
      refine E_n ?_
      refine C_join (fun (k : Value → Value → Value → Value → Value → M) (ρ : Nat → Value) => k (ρ 1) (ρ 4) (ρ 5) (ρ 6) (ρ 7)) h (fun j3 J3 h => ?_) (fun ρ w h => ?_)
      · refine C_cnd h (fun h => ?_) (fun h => ?_)
        · refine L_region ?_
          refine L_u (P_fa fo68_1 h) ?_
          intro v w h
          refine L_u (P_ld sc66 h) ?_
          intro v w h
          refine L_mv ?_
          refine L_u (P_ia se66 h) ?_
          intro v w h
          refine L_u (P_ld sc5 h) ?_
          intro v w h
          refine L_as ?_
          refine L_nil ?_
          exact J3 _ _ h
        · refine C_skip ?_
          exact J3 _ _ h
      · unfold f43_j3 at h
        refine E_n ?_
        refine wp_seq ?_
        refine D_region (by decide +kernel) 12 rfl ?_
        replace h := dr_e h
        refine G_p 0 rfl (by decide +kernel) (Y_mv h) ?_
        intro v h
        refine G_p 1 rfl (by decide +kernel) (Y_fa fo68_0 h) ?_
        intro v h
        refine G_r _ 2 rfl (by decide +kernel) (R_ld sc22 h) ?_
        intro v h
        refine G_p 3 rfl (by decide +kernel) (Y_mv h) ?_
        intro v h
        refine G_p 4 rfl (by decide +kernel) (Y_ia se22 h) ?_
        intro v h
        refine G_r _ 5 rfl (by decide +kernel) (R_ld sc3 h) ?_
        intro v h
        refine G_p 6 rfl (by decide +kernel) (Y_mv h) ?_
        intro v h
        refine G_e 7 rfl (by decide +kernel) (N_cl Tryd.func67 rfl nn67 (fun w Q h => s67 _ w Q h) h ?_)
        intro v w h
        refine ⟨keepF_cons (kp_1 h) (keepF_cons (kp_1 (kp_2 h)) keepF_nil), ?_⟩
        replace h := (kp_2 (kp_2 h))
        refine G_r _ 8 rfl (by decide +kernel) (R_bld h) ?_
        intro v h
        refine G_e 9 rfl (by decide +kernel) (N_bsl h ?_)
        intro v w h
        refine ⟨keepF_dep [8] (by decide +kernel) rfl (keepF_dep [8, 5] (by decide +kernel) rfl (keepF_dep [8, 5, 4, 2] (by decide +kernel) rfl keepF_nil)), ?_⟩
        refine G_e 10 rfl (by decide +kernel) (N_bi rfl h ?_)
        intro v w h
        refine ⟨keepF_dep [9, 8] (by decide +kernel) rfl (keepF_dep [9, 8, 5] (by decide +kernel) rfl (keepF_dep [9, 8, 5, 4, 2] (by decide +kernel) rfl keepF_nil)), ?_⟩
        refine G_p 11 rfl (by decide +kernel) (Y_as h) ?_
        intro v h
        refine G_done (by decide +kernel) ?_
        refine E_n ?_
        refine D_region (by decide +kernel) 12 rfl ?_
        replace h := dr_e h
        refine G_p 0 rfl (by decide +kernel) (Y_mv h) ?_
        intro v h
        refine G_p 1 rfl (by decide +kernel) (Y_fa fo68_0 h) ?_
        intro v h
        refine G_r _ 2 rfl (by decide +kernel) (R_ld sc22 h) ?_
        intro v h
        refine G_p 3 rfl (by decide +kernel) (Y_mv h) ?_
        intro v h
        refine G_p 4 rfl (by decide +kernel) (Y_ia se22 h) ?_
        intro v h
        refine G_r _ 5 rfl (by decide +kernel) (R_ld sc3 h) ?_
        intro v h
        refine G_p 6 rfl (by decide +kernel) (Y_mv h) ?_
        intro v h
        refine G_e 7 rfl (by decide +kernel) (N_cl Tryd.func67 rfl nn67 (fun w Q h => s67 _ w Q h) h ?_)
        intro v w h
        refine ⟨keepF_cons (kp_1 h) (keepF_cons (kp_1 (kp_2 h)) keepF_nil), ?_⟩
        replace h := (kp_2 (kp_2 h))
        refine G_r _ 8 rfl (by decide +kernel) (R_bld h) ?_
        intro v h
        refine G_e 9 rfl (by decide +kernel) (N_bsl h ?_)
        intro v w h
        refine ⟨keepF_dep [8] (by decide +kernel) rfl (keepF_dep [8, 5] (by decide +kernel) rfl (keepF_dep [8, 5, 4, 2] (by decide +kernel) rfl keepF_nil)), ?_⟩
        refine G_e 10 rfl (by decide +kernel) (N_bi rfl h ?_)
        intro v w h
        refine ⟨keepF_dep [9, 8] (by decide +kernel) rfl (keepF_dep [9, 8, 5] (by decide +kernel) rfl (keepF_dep [9, 8, 5, 4, 2] (by decide +kernel) rfl keepF_nil)), ?_⟩
        refine G_p 11 rfl (by decide +kernel) (Y_as h) ?_
        intro v h
        refine G_done (by decide +kernel) ?_
        refine B_n ?_
        refine E_n ?_
        refine L_region ?_
        refine L_mv ?_
        refine L_u (P_ad h) ?_
        intro v w h
        refine L_as ?_
        refine L_nil ?_
        refine E_n ?_
        exact L2 _ _ h
    · refine C_exit ?_
      refine E_x ?_
      refine E_x ?_
      refine B_x ?_
      exact J1 _ _ h
  · unfold f43_j1 at h
    refine E_n ?_
    refine wp_seq ?_
    refine L_region ?_
    refine L_mv ?_
    refine L_mv ?_
    refine L_as ?_
    refine L_as ?_
    refine L_nil ?_
    refine E_n ?_
    refine C_ret ?_
    show bodyPost Tryd.prog Tryd.f43 (Rt Q) .ret _ _
    exact post_tmps (ts := [2, 3]) (.inr rfl) rfl h

/- factotum/factotumlaw06.PagerNil -/
def f11 (t0 t1 : Value) : M :=
  bx 68 t1 fun t3 =>
  cl (f36) fun t12 =>
  nt t12 fun t13 =>
  cnd t13 (
    rt (.bool false)
    ) (
    ldn 2 t3 fun t15 =>
    cl (f43 t15) fun t16 =>
    ex 0 t16 fun t17 =>
    ex 1 t16 fun t18 =>
    cl (f44 (.pointer none) t0) fun t22 =>
    ex 0 t22 fun t23 =>
    ex 1 t22 fun t24 =>
    cl (f38 (.pointer none) t0) fun t27 =>
    ex 0 t27 fun t28 =>
    ex 1 t27 fun t29 =>
    eqs t23 (.string ⟨#[]⟩) fun t31 =>
    gd t31 true (idv t24) fun t33 =>
    gd t31 true (eqi .i64 t33 (.int .i64 1)) fun t34 =>
    pk t31 t34 (.bool false) fun t35 =>
    gd t35 true (idv (.pointer none)) fun t37 =>
    gd t35 true (idv t17) fun t38 =>
    gd t35 true (cl (f45 t37 t38)) fun t39 =>
    gd t35 true (eqi .i64 t39 (.int .i64 1)) fun t40 =>
    pk t35 t40 (.bool false) fun t41 =>
    gd t41 true (idv (.pointer none)) fun t43 =>
    gd t41 true (cl (f46 t43)) fun t44 =>
    gd t41 true (eqi .i64 t44 (.int .i64 0)) fun t45 =>
    pk t41 t45 (.bool false) fun t46 =>
    gd t46 true (idv (.pointer none)) fun t48 =>
    gd t46 true (cl (f47 t48)) fun t49 =>
    gd t46 true (eqi .i64 t49 (.int .i64 0)) fun t50 =>
    pk t46 t50 (.bool false) fun t51 =>
    gd t51 true (idv t28) fun t53 =>
    gd t51 true (smr Tryd.prog (do eqGuard .eql 49 (.tmp 53) (.const (.pointer none)) t53 (.pointer none); binOp .eql 49 t53 (.pointer none))) fun t54 =>
    pk t51 t54 (.bool false) fun t55 =>
    gd t55 true (idv t29) fun t57 =>
    gd t55 true (eqi .i64 t57 (.int .i64 1)) fun t58 =>
    pk t55 t58 (.bool false) fun t59 =>
    rt t59
    )
theorem s11 (t0 t1 : Value) (w : World) (Q : Value → World → Prop) (h : f11 t0 t1 w Q) : Calls Tryd.prog 11 #[t0, t1] w (Rt Q) := by
  refine calls_of (l := [t0, t1]) Tryd.func11 rfl Tryd.ntmps11 (Nat.le_of_ble_eq_true rfl) ?_
  unfold f11 at h
  refine wp_seq ?_
  refine L_region ?_
  refine L_u (P_bx h) ?_
  intro v w h
  refine L_as ?_
  refine L_nil ?_
  refine E_n ?_
  refine wp_seq ?_
  refine wp_seq ?_
  refine L_region ?_
  refine L_u (N_cl Tryd.func36 rfl nn36 (fun w Q h => s36 w Q h) h) ?_
  intro v w h
  refine L_u (P_nt h) ?_
  intro v w h
  refine L_nil ?_
  refine E_n ?_
  refine C_cnd h (fun h => ?_) (fun h => ?_)
  · refine wp_seq ?_
    refine L_region ?_
    refine L_as ?_
    refine L_nil ?_
    refine E_n ?_
    refine C_ret ?_
    show bodyPost Tryd.prog Tryd.f11 (Rt Q) .ret _ _
    exact post_tmps (ts := [4]) (.inr rfl) rfl h
  · refine C_skip ?_
    refine E_n ?_
    refine wp_seq ?_
    refine L_region ?_
    refine L_as ?_
    refine L_nil ?_
    refine E_n ?_
    refine wp_seq ?_
    refine L_region ?_
    refine L_u (P_ldn ag68 h) ?_
    intro v w h
    refine L_u (N_cl Tryd.func43 rfl nn43 (fun w Q h => s43 _ w Q h) h) ?_
    intro v w h
    refine L_mv ?_
    refine L_u (P_ex h) ?_
    intro v w h
    refine L_u (P_ex h) ?_
    intro v w h
    refine L_as ?_
    refine L_as ?_
    refine L_nil ?_
    refine E_n ?_
    refine wp_seq ?_
    refine L_region ?_
    refine L_mv ?_
    refine L_mv ?_
    refine L_u (N_cl Tryd.func44 rfl nn44 (fun w Q h => s44 _ _ w Q h) h) ?_
    intro v w h
    refine L_mv ?_
    refine L_u (P_ex h) ?_
    intro v w h
    refine L_u (P_ex h) ?_
    intro v w h
    refine L_as ?_
    refine L_as ?_
    refine L_nil ?_
    refine E_n ?_
    refine wp_seq ?_
    refine L_region ?_
    refine L_mv ?_
    refine L_u (N_cl Tryd.func38 rfl nn38 (fun w Q h => s38 _ _ w Q h) h) ?_
    intro v w h
    refine L_mv ?_
    refine L_u (P_ex h) ?_
    intro v w h
    refine L_u (P_ex h) ?_
    intro v w h
    refine L_as ?_
    refine L_as ?_
    refine L_nil ?_
    refine E_n ?_
    refine wp_seq ?_
    refine L_region ?_
    refine L_mv ?_
    refine L_u (P_eqs h) ?_
    intro v w h
    refine L_mv ?_
    refine L_g (t := 32) h rfl rfl (fun c h => P_mv h c) ?_
    intro v w h
    refine L_g (t := 32) h rfl rfl (fun c h => P_eqi h c) ?_
    intro v w h
    refine L_u (P_pk h) ?_
    intro v w h
    refine L_mv ?_
    refine L_g (t := 36) h rfl rfl (fun c h => P_mv h c) ?_
    intro v w h
    refine L_g (t := 36) h rfl rfl (fun c h => P_mv h c) ?_
    intro v w h
    refine L_g (t := 36) h rfl rfl (fun c h => N_cl Tryd.func45 rfl nn45 (fun w Q h => s45 _ _ w Q h) h c) ?_
    intro v w h
    refine L_g (t := 36) h rfl rfl (fun c h => P_eqi h c) ?_
    intro v w h
    refine L_u (P_pk h) ?_
    intro v w h
    refine L_mv ?_
    refine L_g (t := 42) h rfl rfl (fun c h => P_mv h c) ?_
    intro v w h
    refine L_g (t := 42) h rfl rfl (fun c h => N_cl Tryd.func46 rfl nn46 (fun w Q h => s46 _ w Q h) h c) ?_
    intro v w h
    refine L_g (t := 42) h rfl rfl (fun c h => P_eqi h c) ?_
    intro v w h
    refine L_u (P_pk h) ?_
    intro v w h
    refine L_mv ?_
    refine L_g (t := 47) h rfl rfl (fun c h => P_mv h c) ?_
    intro v w h
    refine L_g (t := 47) h rfl rfl (fun c h => N_cl Tryd.func47 rfl nn47 (fun w Q h => s47 _ w Q h) h c) ?_
    intro v w h
    refine L_g (t := 47) h rfl rfl (fun c h => P_eqi h c) ?_
    intro v w h
    refine L_u (P_pk h) ?_
    intro v w h
    refine L_mv ?_
    refine L_g (t := 52) h rfl rfl (fun c h => P_mv h c) ?_
    intro v w h
    refine L_g (t := 52) h rfl rfl (fun c h => P_smr rfl h c) ?_
    intro v w h
    refine L_u (P_pk h) ?_
    intro v w h
    refine L_mv ?_
    refine L_g (t := 56) h rfl rfl (fun c h => P_mv h c) ?_
    intro v w h
    refine L_g (t := 56) h rfl rfl (fun c h => P_eqi h c) ?_
    intro v w h
    refine L_u (P_pk h) ?_
    intro v w h
    refine L_as ?_
    refine L_nil ?_
    refine E_n ?_
    refine C_ret ?_
    show bodyPost Tryd.prog Tryd.f11 (Rt Q) .ret _ _
    exact post_tmps (ts := [4]) (.inr rfl) rfl h

/- gosem.cut.vars -/
def f148 : M :=
  smr Tryd.prog (Instr.build 167 #[(0, (.int .u8 128)), (1, (.int .u8 191))]) fun t0 =>
  smr Tryd.prog (Instr.build 167 #[(0, (.int .u8 160)), (1, (.int .u8 191))]) fun t1 =>
  smr Tryd.prog (Instr.build 167 #[(0, (.int .u8 128)), (1, (.int .u8 159))]) fun t2 =>
  smr Tryd.prog (Instr.build 167 #[(0, (.int .u8 144)), (1, (.int .u8 191))]) fun t3 =>
  smr Tryd.prog (Instr.build 167 #[(0, (.int .u8 128)), (1, (.int .u8 143))]) fun t4 =>
  smr Tryd.prog (Instr.build 168 #[(0, t0), (1, t1), (2, t2), (3, t3), (4, t4)]) fun t5 =>
  stn 32 (.pointer (some ⟨1, 0, none⟩)) t5 <|
  rt (.tuple #[])
theorem s148 (w : World) (Q : Value → World → Prop) (h : f148 w Q) : Calls Tryd.prog 148 #[] w (Rt Q) := by
  refine calls_of (l := []) Tryd.func148 rfl Tryd.ntmps148 (Nat.le_of_ble_eq_true rfl) ?_
  unfold f148 at h
  refine L_region ?_
  refine L_u (N_bld h) ?_
  intro v w h
  refine L_u (N_bld h) ?_
  intro v w h
  refine L_u (N_bld h) ?_
  intro v w h
  refine L_u (N_bld h) ?_
  intro v w h
  refine L_u (N_bld h) ?_
  intro v w h
  refine L_u (N_bld h) ?_
  intro v w h
  refine L_u (P_stn ag168 h) ?_
  intro w h
  refine L_nil ?_
  show bodyPost Tryd.prog Tryd.f148 (Rt Q) .normal _ _
  exact post_tmps (ts := []) (.inl rfl) rfl h
end Go.Proofs.YtongpnolikkknaaDoor

namespace Go.Proofs.YtongpnolikkknaaDoor
namespace Sh
open RowKit
/-- a string's bytes as whole numbers -/
def byL (s : ByteArray) : List Int := s.data.toList.map (fun b => (b.toNat : Int))
theorem byL_len (s : ByteArray) : (byL s).length = s.size := by simp only [byL, List.length_map, Array.length_toList]; rfl
theorem byL_get (s : ByteArray) (i : Nat) (h : i < (byL s).length) : ∃ c, s[i]? = some c ∧ (byL s)[i] = (c.toNat : Int) := by
  have h' : i < s.size := by rw [byL_len] at h; exact h
  refine ⟨s[i], ?_, ?_⟩
  · rw [getElem?_pos s i h']
  · simp only [byL, List.getElem_map, Array.getElem_toList]; rfl
theorem byL_nn {s : ByteArray} {x : Int} (h : x ∈ byL s) : 0 ≤ x ∧ x ≤ 255 := by
  simp only [byL, List.mem_map] at h
  obtain ⟨b, _, rfl⟩ := h
  have := b.toNat_lt
  omega
section
variable {P : Program} {w : World} {Q : Value → World → Prop} {K : Value → M} {B : Nat}
theorem Below_bytes {A : World} (e : TypeId) (s : ByteArray) (h : Below B A w) (hB : B ≤ w.heap.size) : Below B A (Go.Lib.bytesWorld w e s) :=
  h.trans ⟨rfl, rfl, rfl, by rw [Go.Lib.bytesWorld_size]; omega, fun k hk => Go.Lib.bytesWorld_at_old w e s k (by omega)⟩
theorem cvs {src dst e : TypeId} {z : Value} {n b : Nat} {s : ByteArray} (hs : isStr P src = true) (h : slT P dst e z n b) (he : P.underlying e = some (.int .u8))
    (k : ∀ v w', rdI .u8 w' v (byL s) → Below w.heap.size w w' → K v w' Q) : sm P (convert src dst (.string s)) K w Q := by
  obtain ⟨i, h1, _⟩ := slT_info h
  unfold isStr at hs
  cases hu : P.underlying src with
  | none => simp [hu] at hs
  | some u =>
    refine ⟨_, _, Go.Lib.run_convert_string_bytes w src dst e s hu h1 he, k _ _ ?_ (Below_bytes e s (Below.refl _ w) (Nat.le_refl _))⟩
    refine ⟨_, _, by rw [byL_len], ?_⟩
    intro i hi
    have hi' : i < s.size := by rw [byL_len] at hi; exact hi
    refine ⟨_, rfl, ?_⟩
    rw [add_lit, Nat.zero_add, Go.Lib.bytesWorld_cell w e s i hi']
    have hd : i < s.data.toList.length := by simpa using hi'
    simp [byL, List.getD, hi']
/-- a block that is there stays -/
theorem stay {w w' : World} {p : Nat} {o : Obj} (hb : Below w.heap.size w w') (h : w.heap[p]? = some o) : w'.heap[p]? = some o := by
  rcases Nat.lt_or_ge p w.heap.size with hp | hp
  · rw [hb.block p hp]; exact h
  · simp [Array.getElem?_eq_none hp] at h
theorem blk_lt {w : World} {p : Nat} {o : Obj} (h : w.heap[p]? = some o) : p < w.heap.size := by
  rcases Nat.lt_or_ge p w.heap.size with hp | hp
  · exact hp
  · simp [Array.getElem?_eq_none hp] at h
theorem bt {w0 w w' : World} (b : Below w0.heap.size w0 w) (hb : Below w.heap.size w w') : Below w0.heap.size w0 w' := b.trans (hb.mono b.size)
theorem bt' {B : Nat} {w0 w w' : World} (b : Below B w0 w) (hB : B ≤ w.heap.size) (hb : Below w.heap.size w w') : Below B w0 w' := b.trans (hb.mono hB)
theorem b_psh (w : World) (o : Obj) : Below w.heap.size w (psh w o) := Below_psh (Below.refl _ w) (Nat.le_refl _)
end
end Sh
end Go.Proofs.YtongpnolikkknaaDoor

namespace Go.Proofs.YtongpnolikkknaaDoor
namespace Sh
open RowKit
section
variable {P : Program} {w : World} {d : Nat} {xs ys : Array Value} {f : Field} {fs : List Field} {r : Bool}
theorem fE_nil : (Op.eqFields d xs ys []).run P w = .ok true w := by simp [Op.eqFields]
theorem fE_cons {a b : Value} {s : Bool} (hn : (f.name == "_") = false) (hk : P.plainKey f.type = true) (ha : xs[f.offset]? = some a) (hb : ys[f.offset]? = some b) (he : (Op.equalIn d f.type a b).run P w = .ok r w)
    (hr : (Op.eqFields d xs ys fs).run P w = .ok s w) : (Op.eqFields d xs ys (f :: fs)).run P w = .ok (r && s) w := by
  have hn' : f.name ≠ "_" := by simpa using hn
  rw [Op.eqFields]
  simp only [if_pos hn', Sem.run_bind, run_part_plain w hk ha, run_part_plain w hk hb, he, Result.andThen_ok]
  cases r
  · simp
  · simpa using hr
theorem run_eq_agg {t : TypeId} {x y : Operand} {gs : Array Field} (hu : P.underlying t = some (.struct gs)) (hp : P.stoodInHeld t = false) (hg : P.eqGuardType P.depth t = false)
    (h : (Op.eqFields 9999 xs ys gs.toList).run P w = .ok r w) : ((do eqGuard .eql t x y (.agg xs) (.agg ys); binOp .eql t (.agg xs) (.agg ys) : Sem Value)).run P w = .ok (.bool r) w := by
  have hf : P.fieldsOf t = gs := by simp [Program.fieldsOf, hu]
  have h2 : (Op.equalIn 10000 t (.agg xs) (.agg ys)).run P w = .ok r w := by
    rw [run_equalIn_struct (P := P) w 9999 t xs ys (by rw [hf]; exact hu) hp, hf]
    exact h
  have h3 : (Op.equal t (.agg xs) (.agg ys)).run P w = .ok r w := h2
  simp [eqGuard, hg, binOp, h3]
end
end Sh
end Go.Proofs.YtongpnolikkknaaDoor

namespace Go.Proofs.YtongpnolikkknaaDoor
namespace Sh
open RowKit
theorem son_size (l : List Int) : (strOfNums l).size = l.length := strOfNums_size l
theorem son_byL (s : ByteArray) : strOfNums (byL s) = s := by
  apply ByteArray.ext
  apply Array.toList_inj.1
  rw [strOfNums_data, byL, List.map_map]
  conv => rhs; rw [← List.map_id s.data.toList]
  apply List.map_congr_left
  intro x _
  simp
theorem byL_son {l : List Int} (h : ∀ x ∈ l, 0 ≤ x ∧ x ≤ 255) : byL (strOfNums l) = l := by
  unfold byL
  rw [strOfNums_data, List.map_map]
  conv => rhs; rw [← List.map_id l]
  apply List.map_congr_left
  intro x hx
  have := h x hx
  simp only [Function.comp_apply, id_eq, UInt8.toNat_ofNat']
  omega
theorem byL_inj {s t : ByteArray} (h : byL s = byL t) : s = t := by rw [← son_byL s, ← son_byL t, h]
theorem byL_app (s t : ByteArray) : byL (s ++ t) = byL s ++ byL t := by
  unfold byL
  rw [ByteArray.data_append, Array.toList_append, List.map_append]
theorem byL_take (s : ByteArray) (l h : Nat) : byL (s.extract l h) = ((byL s).take h).drop l := by
  unfold byL
  rw [ByteArray.data_extract, Array.toList_extract, List.drop_take]
  simp only [List.extract, List.map_take, List.map_drop]
theorem byL_nil : byL ⟨#[]⟩ = [] := rfl
section
variable {P : Program} {w : World} {Q : Value → World → Prop} {K : Value → M} {B : Nat}
theorem run_cvb {src dst e : TypeId} {z : Value} {n b : Nat} {l : List Int} {v : Value} (hs : slT P src e z n b) (he : P.underlying e = some (.int .u8)) (hd : isStr P dst = true) (hr : rdI .u8 w v l) :
    (convert src dst v).run P w = .ok (.string (strOfNums l)) w := by
  obtain ⟨i, h1, _⟩ := slT_info hs
  have hd' : P.underlying dst = some .string := by
    unfold isStr at hd
    cases hu : P.underlying dst with
    | none => simp [hu] at hd
    | some u => cases u <;> simp_all
  obtain ⟨p, c, rfl, h⟩ := hr
  rw [run_convert_bytes_string w src dst e p l.length c h1 he hd']
  cases p with
  | none =>
    have : l = [] := by
      cases l with
      | nil => rfl
      | cons x l => obtain ⟨a, ha, _⟩ := h 0 (by simp); cases ha
    subst this
    simp [Conv.bytesToString]
    rfl
  | some a =>
    have hl : (loadCells a l.length).run P w = .ok (l.map (Value.int .u8)).toArray w := by
      have := run_loadCells_list (P := P) w a (l.map (Value.int .u8)) (fun j v hj => by
        have hjl : j < l.length := by
          rcases Nat.lt_or_ge j l.length with h | h
          · exact h
          · simp [List.getElem?_eq_none (show (l.map (Value.int .u8)).length ≤ j by simpa using h)] at hj
        obtain ⟨a', e1, e2⟩ := h j hjl
        cases e1
        rw [e2]
        simp [List.getElem?_eq_getElem hjl] at hj
        rw [hj])
      simpa using this
    rw [run_bytesToString w a l.length c l hl, foldl_push_bytes]
    simp [strOfNums, ByteArray.empty, ByteArray.emptyWithCapacity]
    rfl
theorem cvb {src dst e : TypeId} {z : Value} {n b : Nat} {l : List Int} {v : Value} (hs : slT P src e z n b) (he : P.underlying e = some (.int .u8)) (hd : isStr P dst = true) (hr : rdI .u8 w v l)
    (k : K (.string (strOfNums l)) w Q) : smr P (convert src dst v) K w Q := ⟨_, run_cvb hs he hd hr, k⟩
/-- a text's bytes behind a row of the call's own -/
theorem ap_str {t u ty e : TypeId} {b : Nat} (h : slT P t e (.int .u8 0) 1 1) (hu : isStr P u = true) {v : Value} {l : List Int} (hown : ownI B e .u8 w v l) (s : ByteArray)
    (hbytes : l.length + s.size ≤ 140737488355328) (hB : B ≤ w.heap.size)
    (k : ∀ v' w', ownI B e .u8 w' v' (l ++ byL s) → w.grownBy w' v.ownBlock → K v' w' Q) : sm P (Builtin.append_ #[t, u] ty #[v, .string s]) K w Q := by
  obtain ⟨i, g1, g2, g3, g4, g5⟩ := slT_info h
  have hu' : P.underlying u = some .string := by
    unfold isStr at hu
    cases hu2 : P.underlying u with
    | none => simp [hu2] at hu
    | some u => cases u <;> simp_all
  obtain ⟨v', w', hr, ho, hg, _⟩ := Go.Lib.run_append_own_string (P := P) w B t u ty e i g1 hu' g2 g3 g4 g5 v l.length (l.map (Value.int .u8)) hown s (by unfold maxLen; omega) hbytes hB
  refine ⟨v', w', hr, k v' w' ?_ hg⟩
  unfold ownI
  have e1 : Go.Lib.strCells s = (byL s).map (Value.int .u8) := by
    unfold Go.Lib.strCells byL; rw [List.map_map]; rfl
  rw [List.length_append, byL_len, List.map_append, ← e1]
  exact ho
/-- a row of whole numbers, as an argument or the call's own -/
def rdP (k : IntKind) (w : World) (v : Value) (l : List Int) : Prop :=
  (v = .slice none 0 0 ∧ l = []) ∨ ∃ a c, v = .slice (some a) l.length c ∧ ∀ i (h : i < l.length), w.cell? (a.add i) = some (.int k l[i])
theorem rdP_rd {k : IntKind} {w : World} {v : Value} {l : List Int} (h : rdP k w v l) : rdI k w v l := by
  rcases h with ⟨rfl, rfl⟩ | ⟨a, c, rfl, h⟩
  · exact ⟨none, 0, rfl, fun i h => by simp at h⟩
  · exact ⟨some a, c, rfl, fun i hi => ⟨a, rfl, h i hi⟩⟩
theorem rdP_below {k : IntKind} {w w' : World} {v : Value} {l : List Int} (hb : Below w.heap.size w w') (h : rdP k w v l) : rdP k w' v l := by
  rcases h with h | ⟨a, c, rfl, h⟩
  · exact .inl h
  · exact .inr ⟨a, c, rfl, fun i hi => cell_below hb (h i hi)⟩
theorem ownI_rdP {B : Nat} {e : TypeId} {k : IntKind} {w : World} {v : Value} {l : List Int} (h : ownI B e k w v l) : rdP k w v l := by
  obtain ⟨h1, h2⟩ := h
  rcases h2 with ⟨rfl, h0⟩ | ⟨g, cap, cur, rfl, hg⟩
  · exact .inl ⟨rfl, List.length_eq_zero_iff.1 h0⟩
  · refine .inr ⟨_, _, rfl, fun i hi => ?_⟩
    rw [add_lit, Nat.zero_add]
    exact ownI_cell ⟨h1, .inr ⟨g, cap, cur, rfl, hg⟩⟩ i hi
/-- numbers behind a row of the call's own -/
theorem ap_rd {t ty e : TypeId} {k : IntKind} {b : Nat} (h : slT P t e (.int k 0) 1 b) {v u : Value} {l m : List Int} (hown : ownI B e k w v l) (hr : rdP k w u m)
    (hbytes : (l.length + m.length) * b ≤ 140737488355328) (h63 : l.length + m.length ≤ 140737488355328) (hB : B ≤ w.heap.size)
    (kk : ∀ v' w', ownI B e k w' v' (l ++ m) → w.grownBy w' v.ownBlock → K v' w' Q) : sm P (Builtin.append_ #[t, t] ty #[v, u]) K w Q := by
  obtain ⟨i, g1, g2, g3, g4, g5⟩ := slT_info h
  rcases hr with ⟨rfl, rfl⟩ | ⟨a, c, rfl, hr⟩
  · refine ⟨v, w, run_append_owned_none w B t ty e i 1 g1 g2 v l.length (l.map (Value.int k)) hown, kk v w (by rw [List.append_nil]; exact hown) (World.grownBy.refl w _)⟩
  · obtain ⟨v', w', hrun, ho, hg, _⟩ := run_append_own (P := P) w B t ty e i (.int k 0) 1 b g1 g2 g3 g4 g5 rfl (by decide) v l.length (l.map (Value.int k)) hown a m.length c (m.map (Value.int k)) (by simp) (by
        intro j u hj
        have hjl : j < m.length := by
          rcases Nat.lt_or_ge j m.length with h | h
          · exact h
          · simp [List.getElem?_eq_none (show (m.map (Value.int k)).length ≤ j by simpa using h)] at hj
        rw [hr j hjl]
        simp [List.getElem?_eq_getElem hjl] at hj
        rw [hj]) (by intro u hu; simp only [List.mem_map] at hu; obtain ⟨x, _, rfl⟩ := hu; rfl) (by unfold maxLen; omega) hbytes hB
    refine ⟨v', w', hrun, kk v' w' ?_ hg⟩
    unfold ownI
    rw [List.length_append, List.map_append]
    exact ho
theorem ownI_weak {B B' : Nat} {e : TypeId} {k : IntKind} {w : World} {v : Value} {l : List Int} (h : ownI B e k w v l) (hB : B' ≤ B) : ownI B' e k w v l := by
  obtain ⟨o1, o2⟩ := h
  refine ⟨o1, o2.imp id ?_⟩
  rintro ⟨g, cap, cur, q1, q2, q3⟩
  exact ⟨g, cap, cur, q1, by omega, q3⟩
/-- a new row of zeros -/
theorem mkI {t e : TypeId} {k j j' : IntKind} {b n : Nat} (h : slT P t e (.int k 0) 1 b) (hn : b * n ≤ 281474976710656) (hn2 : n ≤ 281474976710656) (hB : B ≤ w.heap.size)
    (kk : ∀ v' w', ownI B e k w' v' (List.replicate n 0) → Below w.heap.size w w' → K v' w' Q) : sm P (Instr.makeSlice t (.int j (n : Int)) (.int j' (n : Int))) K w Q := by
  obtain ⟨i, g1, g2, g3, g4, g5⟩ := slT_info h
  obtain ⟨w', hr, ho, hg⟩ := run_make_full (P := P) w w.heap.size t e i (.int k 0) 1 g1 g2 g3 g4 j j' n (by rw [g5]; exact hn) (by unfold maxLen; omega) (Nat.le_refl _)
  refine ⟨_, w', hr, kk _ _ ?_ ?_⟩
  · have e : (madeCells (Value.int k 0).cells (n * 1)).toList = (List.replicate n (0 : Int)).map (Value.int k) := by
      apply List.ext_getElem
      · simp [madeCells]
      · intro i h1 h2
        simp [madeCells, Value.cells, Nat.mod_one]
    rw [e] at ho
    refine ownI_weak (B := w.heap.size) ?_ hB
    unfold ownI
    rw [List.length_replicate]
    exact ho
  · exact (Below.refl _ _).grown hg (Nat.le_refl _) (fun k hk => by cases hk)
end
end Sh
end Go.Proofs.YtongpnolikkknaaDoor
