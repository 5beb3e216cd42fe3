/- Functions as predicate transformers, and that the machine does what they say, by program. -/
import Derived.Test.YtongpnolikkknaaDoorZ0
import Derived.Lib.ConvBytes
import Derived.Laws.StructEq
import Derived.ChangeKeysEq
import Derived.Lib.AppendStr
import Derived.Laws.BytesArg
import Derived.Laws.OwnMore
import Derived.ChangeShapes
import Derived.Test.YtongpnolikkknaaDoorRows
import Derived.Laws.Pointers
import Derived.Laws.Bits64b
import Derived.MapKept
import Derived.Maps.RangeRun
import Derived.DeepKeys5
import Derived.Maps.AppendAt
import Derived.Laws.CopyRow
import Derived.Laws.IdiomCopy
set_option linter.unusedVariables false
set_option linter.unusedSimpArgs false
set_option linter.unusedSectionVars false
set_option maxRecDepth 20000
set_option maxHeartbeats 4000000
namespace Go.Proofs.YtongpnolikkknaaDoor
open Sh
attribute [local irreducible] wpL anyG act jn lo gdB amb kp smr nc fa ld ldn st stn ad su mu qu re lt le gt ge eqi nei bws shl shr cat eqs nes lts gts eqb neb nt pk cv al bx ex fld fldn lnl lns ia iaa ixs sls sll sla mif mnm mxm mm asrt sm smu cl cc cf ci cnd gd gdu
/- factotum/factotumlaw05.UndoMark -/
def f5 (t0 t1 t2 : Value) : M :=
  cl (f12) fun t11 =>
  nt t11 fun t12 =>
  cnd t12 (
    rt (.bool false)
    ) (
    cl (f18 t0) fun t14 =>
    cl (f18 t1) fun t16 =>
    lns t14 fun t18 =>
    nei .i64 t18 (.int .i64 64) fun t19 =>
    gd t19 false (idv t16) fun t21 =>
    gd t19 false (lns t21) fun t22 =>
    gd t19 false (nei .i64 t22 (.int .i64 64)) fun t23 =>
    pk t19 (.bool true) t23 fun t24 =>
    gd t24 false (idv t14) fun t26 =>
    gd t24 false (cl (f19 t26)) fun t27 =>
    gd t24 false (idv t0) fun t28 =>
    gd t24 false (neb t27 t28) fun t29 =>
    pk t24 (.bool true) t29 fun t30 =>
    gd t30 false (idv t16) fun t32 =>
    gd t30 false (cl (f19 t32)) fun t33 =>
    gd t30 false (idv t1) fun t34 =>
    gd t30 false (neb t33 t34) fun t35 =>
    pk t30 (.bool true) t35 fun t36 =>
    gd t36 false (cl (f19 (.string ⟨#[]⟩))) fun t38 =>
    pk t36 (.bool true) t38 fun t39 =>
    cnd t39 (
      rt (.bool false)
      ) (
      cv .u64 t2 fun t41 =>
      re .u64 t41 (.int .u64 65) fun t42 =>
      cv .i64 t42 fun t43 =>
      dr <|
      idv t14 fun t44 =>
      idv t43 fun t45 =>
      sls t44 none (some t45) fun t46 =>
      idv t16 fun t47 =>
      idv t43 fun t48 =>
      sls t47 (some t48) none fun t49 =>
      cat t46 t49 fun t50 =>
      cl (f19 t50) fun t51 =>
      idv t51 fun t10 =>
      eqb t10 t0 fun t54 =>
      gd t54 false (idv t10) fun t56 =>
      gd t54 false (idv t1) fun t57 =>
      gd t54 false (eqb t56 t57) fun t58 =>
      pk t54 (.bool true) t58 fun t59 =>
      rt t59
      )
    )
def f20 (t0 t1 : Value) : M :=
  mu .i64 (.int .i64 4) t0 fun t6 =>
  ad .i64 (.int .i64 2) t6 fun t7 =>
  ad .i64 t7 t1 fun t9 =>
  rt t9
theorem s20 (t0 t1 : Value) (w : World) (Q : Value → World → Prop) (h : f20 t0 t1 w Q) : Calls Tryd.prog 20 #[t0, t1] w (Rt Q) := by
  refine calls_of (l := [t0, t1]) Tryd.func20 rfl Tryd.ntmps20 (Nat.le_of_ble_eq_true rfl) ?_
  unfold f20 at h
  refine wp_seq ?_
  refine L_region ?_
  refine L_as ?_
  refine L_nil ?_
  refine E_n ?_
  refine wp_seq ?_
  refine L_region ?_
  refine L_mv ?_
  refine L_u (P_mu h) ?_
  intro v w h
  refine L_u (P_ad h) ?_
  intro v w h
  refine L_mv ?_
  refine L_u (P_ad h) ?_
  intro v w h
  refine L_as ?_
  refine L_nil ?_
  refine E_n ?_
  refine C_ret ?_
  show bodyPost Tryd.prog Tryd.f20 (Rt Q) .ret _ _
  exact post_tmps (ts := [4]) (.inr rfl) rfl h

/- factotum/undo.Need -/
def f22 (t0 : Value) : M :=
  cl (f21 t0 (.int .i64 0)) fun t4 =>
  rt t4
theorem s22 (t0 : Value) (w : World) (Q : Value → World → Prop) (h : f22 t0 w Q) : Calls Tryd.prog 22 #[t0] w (Rt Q) := by
  refine calls_of (l := [t0]) Tryd.func22 rfl Tryd.ntmps22 (Nat.le_of_ble_eq_true rfl) ?_
  unfold f22 at h
  refine wp_seq ?_
  refine L_region ?_
  refine L_as ?_
  refine L_nil ?_
  refine E_n ?_
  refine wp_seq ?_
  refine L_region ?_
  refine L_mv ?_
  refine L_u (N_cl Tryd.func21 rfl nn21 (fun w Q h => s21 _ _ w Q h) h) ?_
  intro v w h
  refine L_as ?_
  refine L_nil ?_
  refine E_n ?_
  refine C_ret ?_
  show bodyPost Tryd.prog Tryd.f22 (Rt Q) .ret _ _
  exact post_tmps (ts := [2]) (.inr rfl) rfl h

/- factotum/factotumlaw05.UndoApart -/
def f6 (t0 t1 t2 : Value) : M :=
  bx 35 t0 fun t3 =>
  bx 35 t1 fun t4 =>
  cl (f12) fun t17 =>
  nt t17 fun t18 =>
  cnd t18 (
    rt (.bool false)
    ) (
    cv .u64 t2 fun t20 =>
    re .u64 t20 (.int .u64 1000) fun t21 =>
    cv .i64 t21 fun t22 =>
    ad .i64 t22 (.int .i64 1) fun t23 =>
    dr <|
    iaa 2 1 t3 (.int .i64 0) fun t24 =>
    ld t24 fun t25 =>
    cv .u64 t25 fun t26 =>
    re .u64 t26 (.int .u64 31) fun t27 =>
    cv .i64 t27 fun t28 =>
    iaa 2 1 t3 (.int .i64 1) fun t29 =>
    ld t29 fun t30 =>
    cv .u64 t30 fun t31 =>
    re .u64 t31 (.int .u64 4) fun t32 =>
    cv .i64 t32 fun t33 =>
    idv t28 fun t8 =>
    idv t33 fun t9 =>
    dr <|
    iaa 2 1 t4 (.int .i64 0) fun t34 =>
    ld t34 fun t35 =>
    cv .u64 t35 fun t36 =>
    idv t23 fun t37 =>
    cv .u64 t37 fun t38 =>
    re .u64 t36 t38 fun t39 =>
    cv .i64 t39 fun t40 =>
    iaa 2 1 t4 (.int .i64 1) fun t41 =>
    ld t41 fun t42 =>
    cv .u64 t42 fun t43 =>
    re .u64 t43 (.int .u64 4) fun t44 =>
    cv .i64 t44 fun t45 =>
    idv t40 fun t10 =>
    idv t45 fun t11 =>
    cl (f20 t8 t9) fun t48 =>
    cl (f21 t10 t11) fun t51 =>
    dr <|
    iaa 2 1 t3 (.int .i64 0) fun t52 =>
    ld t52 fun t53 =>
    cv .u64 t53 fun t54 =>
    idv t23 fun t55 =>
    cv .u64 t55 fun t56 =>
    re .u64 t54 t56 fun t57 =>
    cv .i64 t57 fun t58 =>
    iaa 2 1 t3 (.int .i64 1) fun t59 =>
    ld t59 fun t60 =>
    cv .u64 t60 fun t61 =>
    re .u64 t61 (.int .u64 4) fun t62 =>
    cv .i64 t62 fun t63 =>
    idv t58 fun t14 =>
    idv t63 fun t15 =>
    cl (f21 t14 t15) fun t66 =>
    ge .i64 t48 (.int .i64 2) fun t68 =>
    gd t68 true (idv t48) fun t70 =>
    gd t68 true (cl (f21 (.int .i64 0) (.int .i64 0))) fun t71 =>
    gd t68 true (lt .i64 t70 t71) fun t72 =>
    pk t68 t72 (.bool false) fun t73 =>
    gd t73 true (idv t51) fun t75 =>
    gd t73 true (cl (f21 (.int .i64 0) (.int .i64 0))) fun t76 =>
    gd t73 true (ge .i64 t75 t76) fun t77 =>
    pk t73 t77 (.bool false) fun t78 =>
    gd t78 true (idv t51) fun t80 =>
    gd t78 true (idv t23) fun t81 =>
    gd t78 true (cl (f22 t81)) fun t82 =>
    gd t78 true (lt .i64 t80 t82) fun t83 =>
    pk t78 t83 (.bool false) fun t84 =>
    gd t84 true (idv t51) fun t86 =>
    gd t84 true (idv t66) fun t87 =>
    gd t84 true (eqi .i64 t86 t87) fun t88 =>
    gd t84 true (idv t10) fun t89 =>
    gd t84 true (idv t14) fun t90 =>
    gd t84 true (eqi .i64 t89 t90) fun t91 =>
    gd t84 true (idv t91) fun t92 =>
    gd t92 true (idv t11) fun t93 =>
    gd t92 true (idv t15) fun t94 =>
    gd t92 true (eqi .i64 t93 t94) fun t95 =>
    gd t84 true (pk t92 t95 (.bool false)) fun t96 =>
    gd t84 true (eqb t88 t96) fun t97 =>
    pk t84 t97 (.bool false) fun t98 =>
    gd t98 true (idv t48) fun t100 =>
    gd t98 true (idv t8) fun t101 =>
    gd t98 true (mu .i64 (.int .i64 4) t101) fun t102 =>
    gd t98 true (ad .i64 (.int .i64 2) t102) fun t103 =>
    gd t98 true (idv t9) fun t104 =>
    gd t98 true (ad .i64 t103 t104) fun t105 =>
    gd t98 true (eqi .i64 t100 t105) fun t106 =>
    pk t98 t106 (.bool false) fun t107 =>
    gd t107 true (idv t51) fun t109 =>
    gd t107 true (idv t10) fun t110 =>
    gd t107 true (mu .i64 (.int .i64 4) t110) fun t111 =>
    gd t107 true (ad .i64 (.int .i64 126) t111) fun t112 =>
    gd t107 true (idv t11) fun t113 =>
    gd t107 true (ad .i64 t112 t113) fun t114 =>
    gd t107 true (eqi .i64 t109 t114) fun t115 =>
    pk t107 t115 (.bool false) fun t116 =>
    rt t116
    )
theorem s6 (t0 t1 t2 : Value) (w : World) (Q : Value → World → Prop) (h : f6 t0 t1 t2 w Q) : Calls Tryd.prog 6 #[t0, t1, t2] w (Rt Q) := by
  refine calls_of (l := [t0, t1, t2]) Tryd.func6 rfl Tryd.ntmps6 (Nat.le_of_ble_eq_true rfl) ?_
  unfold f6 at h
  refine wp_seq ?_
  refine L_region ?_
  refine L_u (P_bx h) ?_
  intro v w h
  refine L_u (P_bx h) ?_
  intro v w h
  refine L_as ?_
  refine L_nil ?_
  refine E_n ?_
  refine wp_seq ?_
  refine wp_seq ?_
  refine L_region ?_
  refine L_u (N_cl Tryd.func12 rfl nn12 (fun w Q h => s12 w Q h) h) ?_
  intro v w h
  refine L_u (P_nt h) ?_
  intro v w h
  refine L_nil ?_
  refine E_n ?_
  refine C_cnd h (fun h => ?_) (fun h => ?_)
  · refine wp_seq ?_
    refine L_region ?_
    refine L_as ?_
    refine L_nil ?_
    refine E_n ?_
    refine C_ret ?_
    show bodyPost Tryd.prog Tryd.f6 (Rt Q) .ret _ _
    exact post_tmps (ts := [6]) (.inr rfl) rfl h
  · refine C_skip ?_
    refine E_n ?_
    refine wp_seq ?_
    refine L_region ?_
    refine L_mv ?_
    refine L_u (P_cv ai3 in33 h) ?_
    intro v w h
    refine L_u (P_re h) ?_
    intro v w h
    refine L_u (P_cv ai33 in3 h) ?_
    intro v w h
    refine L_u (P_ad h) ?_
    intro v w h
    refine L_as ?_
    refine L_nil ?_
    refine E_n ?_
    refine wp_seq ?_
    refine D_region (by decide +kernel) 12 rfl ?_
    replace h := dr_e h
    refine G_p 0 rfl (by decide +kernel) (Y_iaa ae35 h) ?_
    intro v h
    refine G_r _ 1 rfl (by decide +kernel) (R_ld sc3 h) ?_
    intro v h
    refine G_p 2 rfl (by decide +kernel) (Y_cv ai3 in33 h) ?_
    intro v h
    refine G_p 3 rfl (by decide +kernel) (Y_re h) ?_
    intro v h
    refine G_p 4 rfl (by decide +kernel) (Y_cv ai33 in3 h) ?_
    intro v h
    refine G_p 5 rfl (by decide +kernel) (Y_iaa ae35 h) ?_
    intro v h
    refine G_r _ 6 rfl (by decide +kernel) (R_ld sc3 h) ?_
    intro v h
    refine G_p 7 rfl (by decide +kernel) (Y_cv ai3 in33 h) ?_
    intro v h
    refine G_p 8 rfl (by decide +kernel) (Y_re h) ?_
    intro v h
    refine G_p 9 rfl (by decide +kernel) (Y_cv ai33 in3 h) ?_
    intro v h
    refine G_p 10 rfl (by decide +kernel) (Y_as h) ?_
    intro v h
    refine G_p 11 rfl (by decide +kernel) (Y_as h) ?_
    intro v h
    refine G_done (by decide +kernel) ?_
    refine E_n ?_
    refine wp_seq ?_
    refine D_region (by decide +kernel) 14 rfl ?_
    replace h := dr_e h
    refine G_p 0 rfl (by decide +kernel) (Y_iaa ae35 h) ?_
    intro v h
    refine G_r _ 1 rfl (by decide +kernel) (R_ld sc3 h) ?_
    intro v h
    refine G_p 2 rfl (by decide +kernel) (Y_cv ai3 in33 h) ?_
    intro v h
    refine G_p 3 rfl (by decide +kernel) (Y_mv h) ?_
    intro v h
    refine G_p 4 rfl (by decide +kernel) (Y_cv ai3 in33 h) ?_
    intro v h
    refine G_p 5 rfl (by decide +kernel) (Y_re h) ?_
    intro v h
    refine G_p 6 rfl (by decide +kernel) (Y_cv ai33 in3 h) ?_
    intro v h
    refine G_p 7 rfl (by decide +kernel) (Y_iaa ae35 h) ?_
    intro v h
    refine G_r _ 8 rfl (by decide +kernel) (R_ld sc3 h) ?_
    intro v h
    refine G_p 9 rfl (by decide +kernel) (Y_cv ai3 in33 h) ?_
    intro v h
    refine G_p 10 rfl (by decide +kernel) (Y_re h) ?_
    intro v h
    refine G_p 11 rfl (by decide +kernel) (Y_cv ai33 in3 h) ?_
    intro v h
    refine G_p 12 rfl (by decide +kernel) (Y_as h) ?_
    intro v h
    refine G_p 13 rfl (by decide +kernel) (Y_as h) ?_
    intro v h
    refine G_done (by decide +kernel) ?_
    refine E_n ?_
    refine wp_seq ?_
    refine L_region ?_
    refine L_mv ?_
    refine L_mv ?_
    refine L_u (N_cl Tryd.func20 rfl nn20 (fun w Q h => s20 _ _ w Q h) h) ?_
    intro v w h
    refine L_mv ?_
    refine L_mv ?_
    refine L_u (N_cl Tryd.func21 rfl nn21 (fun w Q h => s21 _ _ w Q h) h) ?_
    intro v w h
    refine L_as ?_
    refine L_as ?_
    refine L_nil ?_
    refine E_n ?_
    refine wp_seq ?_
    refine D_region (by decide +kernel) 14 rfl ?_
    replace h := dr_e h
    refine G_p 0 rfl (by decide +kernel) (Y_iaa ae35 h) ?_
    intro v h
    refine G_r _ 1 rfl (by decide +kernel) (R_ld sc3 h) ?_
    intro v h
    refine G_p 2 rfl (by decide +kernel) (Y_cv ai3 in33 h) ?_
    intro v h
    refine G_p 3 rfl (by decide +kernel) (Y_mv h) ?_
    intro v h
    refine G_p 4 rfl (by decide +kernel) (Y_cv ai3 in33 h) ?_
    intro v h
    refine G_p 5 rfl (by decide +kernel) (Y_re h) ?_
    intro v h
    refine G_p 6 rfl (by decide +kernel) (Y_cv ai33 in3 h) ?_
    intro v h
    refine G_p 7 rfl (by decide +kernel) (Y_iaa ae35 h) ?_
    intro v h
    refine G_r _ 8 rfl (by decide +kernel) (R_ld sc3 h) ?_
    intro v h
    refine G_p 9 rfl (by decide +kernel) (Y_cv ai3 in33 h) ?_
    intro v h
    refine G_p 10 rfl (by decide +kernel) (Y_re h) ?_
    intro v h
    refine G_p 11 rfl (by decide +kernel) (Y_cv ai33 in3 h) ?_
    intro v h
    refine G_p 12 rfl (by decide +kernel) (Y_as h) ?_
    intro v h
    refine G_p 13 rfl (by decide +kernel) (Y_as h) ?_
    intro v h
    refine G_done (by decide +kernel) ?_
    refine E_n ?_
    refine wp_seq ?_
    refine L_region ?_
    refine L_mv ?_
    refine L_mv ?_
    refine L_u (N_cl Tryd.func21 rfl nn21 (fun w Q h => s21 _ _ w Q h) h) ?_
    intro v w h
    refine L_as ?_
    refine L_nil ?_
    refine E_n ?_
    refine wp_seq ?_
    refine L_region ?_
    refine L_mv ?_
    refine L_u (P_ge h) ?_
    intro v w h
    refine L_mv ?_
    refine L_g (t := 69) h rfl rfl (fun c h => P_mv h c) ?_
    intro v w h
    refine L_g (t := 69) h rfl rfl (fun c h => N_cl Tryd.func21 rfl nn21 (fun w Q h => s21 _ _ w Q h) h c) ?_
    intro v w h
    refine L_g (t := 69) h rfl rfl (fun c h => P_lt h c) ?_
    intro v w h
    refine L_u (P_pk h) ?_
    intro v w h
    refine L_mv ?_
    refine L_g (t := 74) h rfl rfl (fun c h => P_mv h c) ?_
    intro v w h
    refine L_g (t := 74) h rfl rfl (fun c h => N_cl Tryd.func21 rfl nn21 (fun w Q h => s21 _ _ w Q h) h c) ?_
    intro v w h
    refine L_g (t := 74) h rfl rfl (fun c h => P_ge h c) ?_
    intro v w h
    refine L_u (P_pk h) ?_
    intro v w h
    refine L_mv ?_
    refine L_g (t := 79) h rfl rfl (fun c h => P_mv h c) ?_
    intro v w h
    refine L_g (t := 79) h rfl rfl (fun c h => P_mv h c) ?_
    intro v w h
    refine L_g (t := 79) h rfl rfl (fun c h => N_cl Tryd.func22 rfl nn22 (fun w Q h => s22 _ w Q h) h c) ?_
    intro v w h
    refine L_g (t := 79) h rfl rfl (fun c h => P_lt h c) ?_
    intro v w h
    refine L_u (P_pk h) ?_
    intro v w h
    refine L_mv ?_
    refine L_g (t := 85) h rfl rfl (fun c h => P_mv h c) ?_
    intro v w h
    refine L_g (t := 85) h rfl rfl (fun c h => P_mv h c) ?_
    intro v w h
    refine L_g (t := 85) h rfl rfl (fun c h => P_eqi h c) ?_
    intro v w h
    refine L_g (t := 85) h rfl rfl (fun c h => P_mv h c) ?_
    intro v w h
    refine L_g (t := 85) h rfl rfl (fun c h => P_mv h c) ?_
    intro v w h
    refine L_g (t := 85) h rfl rfl (fun c h => P_eqi h c) ?_
    intro v w h
    refine L_g (t := 85) h rfl rfl (fun c h => P_mv h c) ?_
    intro v w h
    refine L_g (t := 92) h rfl rfl (fun c h => P_mv h c) ?_
    intro v w h
    refine L_g (t := 92) h rfl rfl (fun c h => P_mv h c) ?_
    intro v w h
    refine L_g (t := 92) h rfl rfl (fun c h => P_eqi h c) ?_
    intro v w h
    refine L_g (t := 85) h rfl rfl (fun c h => P_pk h c) ?_
    intro v w h
    refine L_g (t := 85) h rfl rfl (fun c h => P_eqb bo4 h c) ?_
    intro v w h
    refine L_u (P_pk h) ?_
    intro v w h
    refine L_mv ?_
    refine L_g (t := 99) h rfl rfl (fun c h => P_mv h c) ?_
    intro v w h
    refine L_g (t := 99) h rfl rfl (fun c h => P_mv h c) ?_
    intro v w h
    refine L_g (t := 99) h rfl rfl (fun c h => P_mu h c) ?_
    intro v w h
    refine L_g (t := 99) h rfl rfl (fun c h => P_ad h c) ?_
    intro v w h
    refine L_g (t := 99) h rfl rfl (fun c h => P_mv h c) ?_
    intro v w h
    refine L_g (t := 99) h rfl rfl (fun c h => P_ad h c) ?_
    intro v w h
    refine L_g (t := 99) h rfl rfl (fun c h => P_eqi h c) ?_
    intro v w h
    refine L_u (P_pk h) ?_
    intro v w h
    refine L_mv ?_
    refine L_g (t := 108) h rfl rfl (fun c h => P_mv h c) ?_
    intro v w h
    refine L_g (t := 108) h rfl rfl (fun c h => P_mv h c) ?_
    intro v w h
    refine L_g (t := 108) h rfl rfl (fun c h => P_mu h c) ?_
    intro v w h
    refine L_g (t := 108) h rfl rfl (fun c h => P_ad h c) ?_
    intro v w h
    refine L_g (t := 108) h rfl rfl (fun c h => P_mv h c) ?_
    intro v w h
    refine L_g (t := 108) h rfl rfl (fun c h => P_ad h c) ?_
    intro v w h
    refine L_g (t := 108) h rfl rfl (fun c h => P_eqi h c) ?_
    intro v w h
    refine L_u (P_pk h) ?_
    intro v w h
    refine L_as ?_
    refine L_nil ?_
    refine E_n ?_
    refine C_ret ?_
    show bodyPost Tryd.prog Tryd.f6 (Rt Q) .ret _ _
    exact post_tmps (ts := [6]) (.inr rfl) rfl h

/- factotum/undo.Cut -/
def f23_b2 (j1 : Value → M) (self2 : Value → Value → M) (t0_1 t4 : Value) : M :=
  nes t0_1 (.string ⟨#[]⟩) fun t9 =>
  cnd t9 (
    sls t0_1 none (some (.int .i64 64)) fun t12 =>
    sm Tryd.prog (Instr.buildSlice 39 1 #[(0, t12)]) fun t13 =>
    sm Tryd.prog (Builtin.append_ #[39, 39] 39 #[t4, t13]) fun t14 =>
    sls t0_1 (some (.int .i64 64)) none fun t16 =>
    self2 t16 t14
    ) (
    j1 t4
    )
def f23_j1 (t4_1 : Value) : M :=
  rt (.tuple #[t4_1, (.int .i64 0)])
def f23 (t0 : Value) : M :=
  lns t0 fun t6 =>
  nei .i64 t6 (.int .i64 256) fun t7 =>
  cnd t7 (
    rt (.tuple #[(.slice none 0 0), (.int .i64 1)])
    ) (
    jn (fun (j1 : Value → M) =>
      lo (fun _ _ => bot) (f23_b2 j1) (fun l => l t0 (.slice none 0 0))
      ) (f23_j1)
    )
theorem s23 (t0 : Value) (w : World) (Q : Value → World → Prop) (h : f23 t0 w Q) : Calls Tryd.prog 23 #[t0] w (Rt Q) := by
  refine calls_of (l := [t0]) Tryd.func23 rfl Tryd.ntmps23 (Nat.le_of_ble_eq_true rfl) ?_
  unfold f23 at h
  refine wp_seq ?_
  refine L_region ?_
  refine L_as ?_
  refine L_as ?_
  refine L_nil ?_
  refine E_n ?_
  refine wp_seq ?_
  refine wp_seq ?_
  refine L_region ?_
  refine L_mv ?_
  refine L_u (P_lns st9 h) ?_
  intro v w h
  refine L_u (P_nei h) ?_
  intro v w h
  refine L_nil ?_
  refine E_n ?_
  refine C_cnd h (fun h => ?_) (fun h => ?_)
  · refine wp_seq ?_
    refine L_region ?_
    refine L_as ?_
    refine L_as ?_
    refine L_nil ?_
    refine E_n ?_
    refine C_ret ?_
    show bodyPost Tryd.prog Tryd.f23 (Rt Q) .ret _ _
    exact post_tmps (ts := [2, 3]) (.inr rfl) rfl h
  · refine C_skip ?_
    refine E_n ?_
    refine wp_seq ?_
    refine L_region ?_
    refine L_as ?_
    refine L_nil ?_
    refine E_n ?_
    refine wp_seq ?_
    refine C_join (fun (k : Value → M) (ρ : Nat → Value) => k (ρ 4)) h (fun j1 J1 h => ?_) (fun ρ w h => ?_)
    · refine C_blk ?_
      refine C_lo (fun (l : Value → Value → M) (ρ : Nat → Value) => l (ρ 0) (ρ 4)) h (fun ρ w h => h) (fun nx self2 L2 ρ w h => ?_)
      unfold f23_b2 at h
      refine wp_seq ?_
      refine wp_seq ?_
      refine L_region ?_
      refine L_mv ?_
      refine L_u (P_nes h) ?_
      intro v w h
      refine L_nil ?_
      refine E_n ?_
      refine C_cnd h (fun h => ?_) (fun h => ?_)
      · refine C_skip ?_
        refine E_n ?_
        refine C_blk ?_
        refine wp_seq ?_
        refine L_region ?_
        refine L_mv ?_
        refine L_mv ?_
        refine L_u (P_sls st9 h) ?_
        intro v w h
        refine L_u (N_bsl h) ?_
        intro v w h
        refine L_u (N_bi rfl h) ?_
        intro v w h
        refine L_as ?_
        refine L_nil ?_
        refine E_n ?_
        refine L_region ?_
        refine L_mv ?_
        refine L_u (P_sls st9 h) ?_
        intro v w h
        refine L_as ?_
        refine L_nil ?_
        refine B_n ?_
        refine E_n ?_
        exact L2 _ _ h
      · refine C_exit ?_
        refine E_x ?_
        refine E_x ?_
        refine B_x ?_
        exact J1 _ _ h
    · unfold f23_j1 at h
      refine E_n ?_
      refine wp_seq ?_
      refine L_region ?_
      refine L_mv ?_
      refine L_as ?_
      refine L_as ?_
      refine L_nil ?_
      refine E_n ?_
      refine C_ret ?_
      show bodyPost Tryd.prog Tryd.f23 (Rt Q) .ret _ _
      exact post_tmps (ts := [2, 3]) (.inr rfl) rfl h

/- factotum/factotumref05.Cut -/
def f89_b2 (j1 : M) (self2 : Value → Value → Value → Value → M) (t0_1 t1_1 t7_1 t8 : Value) : M :=
  lt .i64 t8 t7_1 fun t9 =>
  cnd t9 (
    ia 1 t0_1 t8 fun t14 =>
    ld t14 fun t15 =>
    cf Tryd.prog t1_1 #[t15] fun t16 =>
    cnd t16 (
      rt t8
      ) (
      ad .i64 t8 (.int .i64 1) fun t18 =>
      self2 t0_1 t1_1 t7_1 t18
      )
    ) (
    j1
    )
def f89_j1 : M :=
  rt (.int .i64 (-1))
def f89 (t0 t1 : Value) : M :=
  lnl t0 fun t7 =>
  jn (fun (j1 : M) =>
    lo (fun _ _ _ _ => bot) (f89_b2 j1) (fun l => l t0 t1 t7 (.int .i64 0))
    ) (f89_j1)
theorem s89 (t0 t1 : Value) (w : World) (Q : Value → World → Prop) (h : f89 t0 t1 w Q) : Calls Tryd.prog 89 #[t0, t1] w (Rt Q) := by
  refine calls_of (l := [t0, t1]) Tryd.func89 rfl Tryd.ntmps89 (Nat.le_of_ble_eq_true rfl) ?_
  unfold f89 at h
  refine wp_seq ?_
  refine L_region ?_
  refine L_as ?_
  refine L_nil ?_
  refine E_n ?_
  refine wp_seq ?_
  refine wp_seq ?_
  refine L_region ?_
  refine L_mv ?_
  refine L_u (P_lnl is39 h) ?_
  intro v w h
  refine L_mv ?_
  refine L_nil ?_
  refine E_n ?_
  refine C_join (fun (k : M) (ρ : Nat → Value) => k) h (fun j1 J1 h => ?_) (fun ρ w h => ?_)
  · refine C_blk ?_
    refine C_lo (fun (l : Value → Value → Value → Value → M) (ρ : Nat → Value) => l (ρ 0) (ρ 1) (ρ 7) (ρ 8)) h (fun ρ w h => h) (fun nx self2 L2 ρ w h => ?_)
    unfold f89_b2 at h
    refine wp_seq ?_
    refine L_region ?_
    refine L_u (P_lt h) ?_
    intro v w h
    refine L_nil ?_
    refine E_n ?_
    refine wp_seq ?_
    refine C_cnd h (fun h => ?_) (fun h => ?_)
    · refine C_skip ?_
      refine E_n ?_
      refine wp_seq ?_
      refine C_blk ?_
      refine wp_seq ?_
      refine L_region ?_
      refine L_mv ?_
      refine L_as ?_
      refine L_nil ?_
      refine E_n ?_
      refine wp_seq ?_
      refine L_region ?_
      refine L_mv ?_
      refine L_mv ?_
      refine L_mv ?_
      refine L_u (P_ia se39 h) ?_
      intro v w h
      refine L_u (P_ld sc9 h) ?_
      intro v w h
      refine L_u (N_cf h) ?_
      intro v w h
      refine L_nil ?_
      refine E_n ?_
      refine C_cnd h (fun h => ?_) (fun h => ?_)
      · refine wp_seq ?_
        refine L_region ?_
        refine L_mv ?_
        refine L_as ?_
        refine L_nil ?_
        refine E_n ?_
        refine C_ret ?_
        show bodyPost Tryd.prog Tryd.f89 (Rt Q) .ret _ _
        exact post_tmps (ts := [4]) (.inr rfl) rfl h
      · refine C_skip ?_
        refine B_n ?_
        refine E_n ?_
        refine L_region ?_
        refine L_u (P_ad h) ?_
        intro v w h
        refine L_mv ?_
        refine L_nil ?_
        refine E_n ?_
        exact L2 _ _ h
    · refine C_exit ?_
      refine E_x ?_
      refine E_x ?_
      refine B_x ?_
      exact J1 _ _ h
  · unfold f89_j1 at h
    refine E_n ?_
    refine wp_seq ?_
    refine L_region ?_
    refine L_as ?_
    refine L_nil ?_
    refine E_n ?_
    refine C_ret ?_
    show bodyPost Tryd.prog Tryd.f89 (Rt Q) .ret _ _
    exact post_tmps (ts := [4]) (.inr rfl) rfl h

/- slices.ContainsFunc[[]string,string] -/
def f60 (t0 t1 : Value) : M :=
  cl (f89 t0 t1) fun t7 =>
  ge .i64 t7 (.int .i64 0) fun t8 =>
  rt t8
theorem s60 (t0 t1 : Value) (w : World) (Q : Value → World → Prop) (h : f60 t0 t1 w Q) : Calls Tryd.prog 60 #[t0, t1] w (Rt Q) := by
  refine calls_of (l := [t0, t1]) Tryd.func60 rfl Tryd.ntmps60 (Nat.le_of_ble_eq_true rfl) ?_
  unfold f60 at h
  refine wp_seq ?_
  refine L_region ?_
  refine L_as ?_
  refine L_nil ?_
  refine E_n ?_
  refine wp_seq ?_
  refine L_region ?_
  refine L_mv ?_
  refine L_mv ?_
  refine L_u (N_cl Tryd.func89 rfl nn89 (fun w Q h => s89 _ _ w Q h) h) ?_
  intro v w h
  refine L_u (P_ge h) ?_
  intro v w h
  refine L_as ?_
  refine L_nil ?_
  refine E_n ?_
  refine C_ret ?_
  show bodyPost Tryd.prog Tryd.f60 (Rt Q) .ret _ _
  exact post_tmps (ts := [4]) (.inr rfl) rfl h

/- factotum/undo.Join$1 -/
def f61 (t0 : Value) : M :=
  lns t0 fun t4 =>
  nei .i64 t4 (.int .i64 64) fun t5 =>
  rt t5
theorem s61 (t0 : Value) (w : World) (Q : Value → World → Prop) (h : f61 t0 w Q) : Calls Tryd.prog 61 #[t0] w (Rt Q) := by
  refine calls_of (l := [t0]) Tryd.func61 rfl Tryd.ntmps61 (Nat.le_of_ble_eq_true rfl) ?_
  unfold f61 at h
  refine wp_seq ?_
  refine L_region ?_
  refine L_as ?_
  refine L_nil ?_
  refine E_n ?_
  refine wp_seq ?_
  refine L_region ?_
  refine L_mv ?_
  refine L_u (P_lns st9 h) ?_
  intro v w h
  refine L_u (P_nei h) ?_
  intro v w h
  refine L_as ?_
  refine L_nil ?_
  refine E_n ?_
  refine C_ret ?_
  show bodyPost Tryd.prog Tryd.f61 (Rt Q) .ret _ _
  exact post_tmps (ts := [2]) (.inr rfl) rfl h

/- factotum/undo.Join -/
def f25 (t0 : Value) : M :=
  lnl t0 fun t5 =>
  nei .i64 t5 (.int .i64 4) fun t6 =>
  gd t6 false (idv t0) fun t8 =>
  gd t6 false (cl (f60 t8 (.func (.func 61) #[] #[]))) fun t9 =>
  pk t6 (.bool true) t9 fun t10 =>
  cnd t10 (
    rt (.tuple #[(.string ⟨#[]⟩), (.int .i64 1)])
    ) (
    cc Tryd.prog 62 #[t0, (.string ⟨#[]⟩)] fun t12 =>
    rt (.tuple #[t12, (.int .i64 0)])
    )
theorem s25 (t0 : Value) (w : World) (Q : Value → World → Prop) (h : f25 t0 w Q) : Calls Tryd.prog 25 #[t0] w (Rt Q) := by
  refine calls_of (l := [t0]) Tryd.func25 rfl Tryd.ntmps25 (Nat.le_of_ble_eq_true rfl) ?_
  unfold f25 at h
  refine wp_seq ?_
  refine L_region ?_
  refine L_as ?_
  refine L_as ?_
  refine L_nil ?_
  refine E_n ?_
  refine wp_seq ?_
  refine wp_seq ?_
  refine L_region ?_
  refine L_mv ?_
  refine L_u (P_lnl is39 h) ?_
  intro v w h
  refine L_u (P_nei h) ?_
  intro v w h
  refine L_mv ?_
  refine L_g (t := 7) h rfl rfl (fun c h => P_mv h c) ?_
  intro v w h
  refine L_g (t := 7) h rfl rfl (fun c h => N_cl Tryd.func60 rfl nn60 (fun w Q h => s60 _ _ w Q h) h c) ?_
  intro v w h
  refine L_u (P_pk h) ?_
  intro v w h
  refine L_nil ?_
  refine E_n ?_
  refine C_cnd h (fun h => ?_) (fun h => ?_)
  · refine wp_seq ?_
    refine L_region ?_
    refine L_as ?_
    refine L_as ?_
    refine L_nil ?_
    refine E_n ?_
    refine C_ret ?_
    show bodyPost Tryd.prog Tryd.f25 (Rt Q) .ret _ _
    exact post_tmps (ts := [2, 3]) (.inr rfl) rfl h
  · refine C_skip ?_
    refine E_n ?_
    refine wp_seq ?_
    refine L_region ?_
    refine L_mv ?_
    refine L_u (N_cc Tryd.func62 rfl nn62 h) ?_
    intro v w h
    refine L_as ?_
    refine L_as ?_
    refine L_nil ?_
    refine E_n ?_
    refine C_ret ?_
    show bodyPost Tryd.prog Tryd.f25 (Rt Q) .ret _ _
    exact post_tmps (ts := [2, 3]) (.inr rfl) rfl h

/- factotum/factotumref05.Join -/
def f64 (t0 : Value) : M :=
  dr <|
  idv t0 fun t2 =>
  idv t0 fun t3 =>
  idv t0 fun t4 =>
  nc t4 fun t5 =>
  fa 0 t5 fun t6 =>
  idv t0 fun t7 =>
  nc t7 fun t8 =>
  fa 0 t8 fun t9 =>
  nc t2 fun t10 =>
  fa 0 t10 fun t11 =>
  fa 0 t11 fun t12 =>
  st t12 t6 <|
  nc t3 fun t13 =>
  fa 0 t13 fun t14 =>
  fa 1 t14 fun t15 =>
  st t15 t9 <|
  rt (.tuple #[])
theorem s64 (t0 : Value) (w : World) (Q : Value → World → Prop) (h : f64 t0 w Q) : Calls Tryd.prog 64 #[t0] w (Rt Q) := by
  refine calls_of (l := [t0]) Tryd.func64 rfl Tryd.ntmps64 (Nat.le_of_ble_eq_true rfl) ?_
  unfold f64 at h
  refine D_region (by decide +kernel) 16 rfl ?_
  replace h := dr_e h
  refine G_p 0 rfl (by decide +kernel) (Y_mv h) ?_
  intro v h
  refine G_p 1 rfl (by decide +kernel) (Y_mv h) ?_
  intro v h
  refine G_p 2 rfl (by decide +kernel) (Y_mv h) ?_
  intro v h
  refine G_p 3 rfl (by decide +kernel) (Y_nc h) ?_
  intro v h
  refine G_p 4 rfl (by decide +kernel) (Y_fa fo97_0 h) ?_
  intro v h
  refine G_p 5 rfl (by decide +kernel) (Y_mv h) ?_
  intro v h
  refine G_p 6 rfl (by decide +kernel) (Y_nc h) ?_
  intro v h
  refine G_p 7 rfl (by decide +kernel) (Y_fa fo97_0 h) ?_
  intro v h
  refine G_p 8 rfl (by decide +kernel) (Y_nc h) ?_
  intro v h
  refine G_p 9 rfl (by decide +kernel) (Y_fa fo97_0 h) ?_
  intro v h
  refine G_p 10 rfl (by decide +kernel) (Y_fa fo95_0 h) ?_
  intro v h
  refine G_e 11 rfl (by decide +kernel) (P_st on91 h ?_)
  intro w h
  refine ⟨keepF_nil, ?_⟩
  refine G_p 12 rfl (by decide +kernel) (Y_nc h) ?_
  intro v h
  refine G_p 13 rfl (by decide +kernel) (Y_fa fo97_0 h) ?_
  intro v h
  refine G_p 14 rfl (by decide +kernel) (Y_fa fo95_1 h) ?_
  intro v h
  refine G_e 15 rfl (by decide +kernel) (P_st on91 h ?_)
  intro w h
  refine ⟨keepF_nil, ?_⟩
  refine G_done (by decide +kernel) ?_
  show bodyPost Tryd.prog Tryd.f64 (Rt Q) .normal _ _
  exact post_tmps (ts := []) (.inl rfl) rfl h

/- factotum/cache.New -/
def f30 (t0 t1 : Value) : M :=
  smr Tryd.prog (do eqGuard .eql 49 (.tmp 6) (.const (.pointer none)) t0 (.pointer none); binOp .eql 49 t0 (.pointer none)) fun t7 =>
  cnd t7 (
    rt (.pointer none)
    ) (
    mxm t1 (.int .i64 0) fun t10 =>
    mnm t10 (.int .i64 64) fun t11 =>
    mm fun t12 =>
    smr Tryd.prog (Instr.build 99 #[(0, t0), (1, t11), (3, t12)]) fun t13 =>
    bx 99 t13 fun t14 =>
    nc t14 fun t16 =>
    fa 2 t16 fun t17 =>
    cl (f64 t17) fun t18 =>
    rt t14
    )
theorem s30 (t0 t1 : Value) (w : World) (Q : Value → World → Prop) (h : f30 t0 t1 w Q) : Calls Tryd.prog 30 #[t0, t1] w (Rt Q) := by
  refine calls_of (l := [t0, t1]) Tryd.func30 rfl Tryd.ntmps30 (Nat.le_of_ble_eq_true rfl) ?_
  unfold f30 at h
  refine wp_seq ?_
  refine L_region ?_
  refine L_as ?_
  refine L_nil ?_
  refine E_n ?_
  refine wp_seq ?_
  refine wp_seq ?_
  refine L_region ?_
  refine L_mv ?_
  refine L_u (P_smr rfl h) ?_
  intro v w h
  refine L_nil ?_
  refine E_n ?_
  refine C_cnd h (fun h => ?_) (fun h => ?_)
  · refine wp_seq ?_
    refine L_region ?_
    refine L_as ?_
    refine L_nil ?_
    refine E_n ?_
    refine C_ret ?_
    show bodyPost Tryd.prog Tryd.f30 (Rt Q) .ret _ _
    exact post_tmps (ts := [4]) (.inr rfl) rfl h
  · refine C_skip ?_
    refine E_n ?_
    refine wp_seq ?_
    refine L_region ?_
    refine L_mv ?_
    refine L_mv ?_
    refine L_u (P_mxm (t := 0) h) ?_
    intro v w h
    refine L_u (P_mnm (t := 0) h) ?_
    intro v w h
    refine L_u (P_mm h) ?_
    intro v w h
    refine L_u (N_bld h) ?_
    intro v w h
    refine L_u (P_bx h) ?_
    intro v w h
    refine L_as ?_
    refine L_nil ?_
    refine E_n ?_
    refine wp_seq ?_
    refine L_region ?_
    refine L_mv ?_
    refine L_u (P_nc h) ?_
    intro v w h
    refine L_u (P_fa fo99_2 h) ?_
    intro v w h
    refine L_u (N_cl Tryd.func64 rfl nn64 (fun w Q h => s64 _ w Q h) h) ?_
    intro v w h
    refine L_nil ?_
    refine E_n ?_
    refine wp_seq ?_
    refine L_region ?_
    refine L_mv ?_
    refine L_as ?_
    refine L_nil ?_
    refine E_n ?_
    refine C_ret ?_
    show bodyPost Tryd.prog Tryd.f30 (Rt Q) .ret _ _
    exact post_tmps (ts := [4]) (.inr rfl) rfl h

/- factotum/device.New -/
def f37 (t0 : Value) : M :=
  mxm t0 (.int .i64 0) fun t4 =>
  mnm t4 (.int .i64 4096) fun t5 =>
  sm Tryd.prog (Instr.makeSlice 105 t5 t5) fun t6 =>
  mm fun t7 =>
  smr Tryd.prog (Instr.build 108 #[(0, t6), (1, t7), (3, (.int .i64 4611686018427387904))]) fun t8 =>
  bx 108 t8 fun t9 =>
  rt t9
theorem s37 (t0 : Value) (w : World) (Q : Value → World → Prop) (h : f37 t0 w Q) : Calls Tryd.prog 37 #[t0] w (Rt Q) := by
  refine calls_of (l := [t0]) Tryd.func37 rfl Tryd.ntmps37 (Nat.le_of_ble_eq_true rfl) ?_
  unfold f37 at h
  refine wp_seq ?_
  refine L_region ?_
  refine L_as ?_
  refine L_nil ?_
  refine E_n ?_
  refine wp_seq ?_
  refine L_region ?_
  refine L_mv ?_
  refine L_u (P_mxm (t := 0) h) ?_
  intro v w h
  refine L_u (P_mnm (t := 0) h) ?_
  intro v w h
  refine L_u (P_sm rfl h) ?_
  intro v w h
  refine L_u (P_mm h) ?_
  intro v w h
  refine L_u (N_bld h) ?_
  intro v w h
  refine L_u (P_bx h) ?_
  intro v w h
  refine L_as ?_
  refine L_nil ?_
  refine E_n ?_
  refine C_ret ?_
  show bodyPost Tryd.prog Tryd.f37 (Rt Q) .ret _ _
  exact post_tmps (ts := [2]) (.inr rfl) rfl h

/- (*factotum/device.Device).Size -/
def f39 (t0 : Value) : M :=
  smr Tryd.prog (do eqGuard .eql 58 (.tmp 3) (.const (.pointer none)) t0 (.pointer none); binOp .eql 58 t0 (.pointer none)) fun t4 =>
  cnd t4 (
    rt (.int .i64 0)
    ) (
    nc t0 fun t6 =>
    fa 0 t6 fun t7 =>
    ld t7 fun t8 =>
    lnl t8 fun t9 =>
    rt t9
    )
theorem s39 (t0 : Value) (w : World) (Q : Value → World → Prop) (h : f39 t0 w Q) : Calls Tryd.prog 39 #[t0] w (Rt Q) := by
  refine calls_of (l := [t0]) Tryd.func39 rfl Tryd.ntmps39 (Nat.le_of_ble_eq_true rfl) ?_
  unfold f39 at h
  refine wp_seq ?_
  refine L_region ?_
  refine L_as ?_
  refine L_nil ?_
  refine E_n ?_
  refine wp_seq ?_
  refine wp_seq ?_
  refine L_region ?_
  refine L_mv ?_
  refine L_u (P_smr rfl h) ?_
  intro v w h
  refine L_nil ?_
  refine E_n ?_
  refine C_cnd h (fun h => ?_) (fun h => ?_)
  · refine wp_seq ?_
    refine L_region ?_
    refine L_as ?_
    refine L_nil ?_
    refine E_n ?_
    refine C_ret ?_
    show bodyPost Tryd.prog Tryd.f39 (Rt Q) .ret _ _
    exact post_tmps (ts := [2]) (.inr rfl) rfl h
  · refine C_skip ?_
    refine E_n ?_
    refine wp_seq ?_
    refine L_region ?_
    refine L_mv ?_
    refine L_u (P_nc h) ?_
    intro v w h
    refine L_u (P_fa fo108_0 h) ?_
    intro v w h
    refine L_u (P_ld sc105 h) ?_
    intro v w h
    refine L_u (P_lnl is105 h) ?_
    intro v w h
    refine L_as ?_
    refine L_nil ?_
    refine E_n ?_
    refine C_ret ?_
    show bodyPost Tryd.prog Tryd.f39 (Rt Q) .ret _ _
    exact post_tmps (ts := [2]) (.inr rfl) rfl h

/- (*factotum/device.Device).Read -/
def f70_j1 (t5_1 : Value) : M :=
  sla 64 1 t5_1 none none fun t40 =>
  smr Tryd.prog (convert 66 9 t40) fun t41 =>
  rt t41
def f70 (t0 t1 : Value) : M :=
  smr Tryd.prog (do eqGuard .eql 58 (.tmp 7) (.const (.pointer none)) t0 (.pointer none); binOp .eql 58 t0 (.pointer none)) fun t8 =>
  gd t8 false (idv t1) fun t10 =>
  gd t8 false (lt .i64 t10 (.int .i64 0)) fun t11 =>
  pk t8 (.bool true) t11 fun t12 =>
  gd t12 false (idv t1) fun t14 =>
  gd t12 false (idv t0) fun t15 =>
  gd t12 false (nc t15) fun t16 =>
  gd t12 false (fa 0 t16) fun t17 =>
  gd t12 false (ld t17) fun t18 =>
  gd t12 false (lnl t18) fun t19 =>
  gd t12 false (ge .i64 t14 t19) fun t20 =>
  pk t12 (.bool true) t20 fun t21 =>
  cnd t21 (
    rt (.string ⟨#[]⟩)
    ) (
    nc t0 fun t24 =>
    fa 1 t24 fun t25 =>
    ld t25 fun t26 =>
    smr Tryd.prog (Instr.lookup 106 t26 t1 true) fun t28 =>
    ex 0 t28 fun t29 =>
    ex 1 t28 fun t30 =>
    al 113 (Array.replicate 64 (.int .u8 0)) fun t5 =>
    stn 64 t5 t29 <|
    nt t30 fun t32 =>
    jn (fun (j1 : Value → M) =>
      cnd t32 (
        nc t0 fun t34 =>
        fa 0 t34 fun t35 =>
        ld t35 fun t36 =>
        ia 64 t36 t1 fun t38 =>
        ldn 64 t38 fun t39 =>
        stn 64 t5 t39 <|
        j1 t5
        ) (
        j1 t5
        )
      ) (f70_j1)
    )
theorem s70 (t0 t1 : Value) (w : World) (Q : Value → World → Prop) (h : f70 t0 t1 w Q) : Calls Tryd.prog 70 #[t0, t1] w (Rt Q) := by
  refine calls_of (l := [t0, t1]) Tryd.func70 rfl Tryd.ntmps70 (Nat.le_of_ble_eq_true rfl) ?_
  unfold f70 at h
  refine wp_seq ?_
  refine L_region ?_
  refine L_as ?_
  refine L_nil ?_
  refine E_n ?_
  refine wp_seq ?_
  refine wp_seq ?_
  refine L_region ?_
  refine L_mv ?_
  refine L_u (P_smr rfl h) ?_
  intro v w h
  refine L_mv ?_
  refine L_g (t := 9) h rfl rfl (fun c h => P_mv h c) ?_
  intro v w h
  refine L_g (t := 9) h rfl rfl (fun c h => P_lt h c) ?_
  intro v w h
  refine L_u (P_pk h) ?_
  intro v w h
  refine L_mv ?_
  refine L_g (t := 13) h rfl rfl (fun c h => P_mv h c) ?_
  intro v w h
  refine L_g (t := 13) h rfl rfl (fun c h => P_mv h c) ?_
  intro v w h
  refine L_g (t := 13) h rfl rfl (fun c h => P_nc h c) ?_
  intro v w h
  refine L_g (t := 13) h rfl rfl (fun c h => P_fa fo108_0 h c) ?_
  intro v w h
  refine L_g (t := 13) h rfl rfl (fun c h => P_ld sc105 h c) ?_
  intro v w h
  refine L_g (t := 13) h rfl rfl (fun c h => P_lnl is105 h c) ?_
  intro v w h
  refine L_g (t := 13) h rfl rfl (fun c h => P_ge h c) ?_
  intro v w h
  refine L_u (P_pk h) ?_
  intro v w h
  refine L_nil ?_
  refine E_n ?_
  refine C_cnd h (fun h => ?_) (fun h => ?_)
  · refine wp_seq ?_
    refine L_region ?_
    refine L_as ?_
    refine L_nil ?_
    refine E_n ?_
    refine C_ret ?_
    show bodyPost Tryd.prog Tryd.f70 (Rt Q) .ret _ _
    exact post_tmps (ts := [4]) (.inr rfl) rfl h
  · refine C_skip ?_
    refine E_n ?_
    refine wp_seq ?_
    refine L_region ?_
    refine L_mv ?_
    refine L_u (P_nc h) ?_
    intro v w h
    refine L_u (P_fa fo108_1 h) ?_
    intro v w h
    refine L_u (P_ld sc106 h) ?_
    intro v w h
    refine L_mv ?_
    refine L_u (P_smr rfl h) ?_
    intro v w h
    refine L_mv ?_
    refine L_u (P_ex h) ?_
    intro v w h
    refine L_u (P_ex h) ?_
    intro v w h
    refine L_u (P_al ze113 rfl h) ?_
    intro v w h
    refine L_u (P_stn ag113 h) ?_
    intro w h
    refine L_as ?_
    refine L_nil ?_
    refine E_n ?_
    refine wp_seq ?_
    refine wp_seq ?_
    refine L_region ?_
    refine L_mv ?_
    refine L_u (P_nt h) ?_
    intro v w h
    refine L_nil ?_
    refine E_n ?_
    refine C_join (fun (k : Value → M) (ρ : Nat → Value) => k (ρ 5)) h (fun j1 J1 h => ?_) (fun ρ w h => ?_)
    · refine C_cnd h (fun h => ?_) (fun h => ?_)
      · refine L_region ?_
        refine L_mv ?_
        refine L_u (P_nc h) ?_
        intro v w h
        refine L_u (P_fa fo108_0 h) ?_
        intro v w h
        refine L_u (P_ld sc105 h) ?_
        intro v w h
        refine L_mv ?_
        refine L_u (P_ia se105 h) ?_
        intro v w h
        refine L_u (P_ldn ag113 h) ?_
        intro v w h
        refine L_u (P_stn ag113 h) ?_
        intro w h
        refine L_nil ?_
        exact J1 _ _ h
      · refine C_skip ?_
        exact J1 _ _ h
    · unfold f70_j1 at h
      refine E_n ?_
      refine wp_seq ?_
      refine L_region ?_
      refine L_u (P_sla ae113 h) ?_
      intro v w h
      refine L_u (P_smr rfl h) ?_
      intro v w h
      refine L_as ?_
      refine L_nil ?_
      refine E_n ?_
      refine C_ret ?_
      show bodyPost Tryd.prog Tryd.f70 (Rt Q) .ret _ _
      exact post_tmps (ts := [4]) (.inr rfl) rfl h

/- (*factotum/pager.Pager).join -/
def f68_b2 (j1 : Value → M) (self2 : Value → Value → Value → Value → M) (t0_1 t1_1 t5 t9 : Value) : M :=
  lt .i64 t9 (.int .i64 4) fun t10 =>
  cnd t10 (
    dr <|
    idv t5 fun t12 =>
    idv t0_1 fun t13 =>
    nc t13 fun t14 =>
    fa 0 t14 fun t15 =>
    ld t15 fun t16 =>
    idv t1_1 fun t17 =>
    idv t9 fun t18 =>
    cf Tryd.prog t17 #[t18] fun t19 =>
    kp (Kld t15 t16) <|
    cl (f70 t16 t19) fun t20 =>
    sm Tryd.prog (Instr.buildSlice 39 1 #[(0, t20)]) fun t21 =>
    sm Tryd.prog (Builtin.append_ #[39, 39] 39 #[t12, t21]) fun t22 =>
    idv t22 fun t5_1 =>
    ad .i64 t9 (.int .i64 1) fun t23 =>
    self2 t0_1 t1_1 t5_1 t23
    ) (
    j1 t5
    )
def f68_j1 (t5_2 : Value) : M :=
  cl (f25 t5_2) fun t26 =>
  ex 0 t26 fun t27 =>
  ex 1 t26 fun t28 =>
  rt t27
def f68 (t0 t1 : Value) : M :=
  jn (fun (j1 : Value → M) =>
    lo (fun _ _ _ _ => bot) (f68_b2 j1) (fun l => l t0 t1 (.slice none 0 0) (.int .i64 0))
    ) (f68_j1)
theorem s68 (t0 t1 : Value) (w : World) (Q : Value → World → Prop) (h : f68 t0 t1 w Q) : Calls Tryd.prog 68 #[t0, t1] w (Rt Q) := by
  refine calls_of (l := [t0, t1]) Tryd.func68 rfl Tryd.ntmps68 (Nat.le_of_ble_eq_true rfl) ?_
  unfold f68 at h
  refine wp_seq ?_
  refine L_region ?_
  refine L_as ?_
  refine L_nil ?_
  refine E_n ?_
  refine wp_seq ?_
  refine L_region ?_
  refine L_as ?_
  refine L_nil ?_
  refine E_n ?_
  refine wp_seq ?_
  refine wp_seq ?_
  refine L_region ?_
  refine L_mv ?_
  refine L_nil ?_
  refine E_n ?_
  refine C_join (fun (k : Value → M) (ρ : Nat → Value) => k (ρ 5)) h (fun j1 J1 h => ?_) (fun ρ w h => ?_)
  · refine C_blk ?_
    refine C_lo (fun (l : Value → Value → Value → Value → M) (ρ : Nat → Value) => l (ρ 0) (ρ 1) (ρ 5) (ρ 9)) h (fun ρ w h => h) (fun nx self2 L2 ρ w h => ?_)
    unfold f68_b2 at h
    refine wp_seq ?_
    refine L_region ?_
    refine L_u (P_lt h) ?_
    intro v w h
    refine L_nil ?_
    refine E_n ?_
    refine wp_seq ?_
    refine C_cnd h (fun h => ?_) (fun h => ?_)
    · refine C_skip ?_
      refine E_n ?_
      refine wp_seq ?_
      refine C_blk ?_
      refine wp_seq ?_
      refine L_region ?_
      refine L_mv ?_
      refine L_as ?_
      refine L_nil ?_
      refine E_n ?_
      refine D_region (by decide +kernel) 12 rfl ?_
      replace h := dr_e h
      refine G_p 0 rfl (by decide +kernel) (Y_mv h) ?_
      intro v h
      refine G_p 1 rfl (by decide +kernel) (Y_mv h) ?_
      intro v h
      refine G_p 2 rfl (by decide +kernel) (Y_nc h) ?_
      intro v h
      refine G_p 3 rfl (by decide +kernel) (Y_fa fo110_0 h) ?_
      intro v h
      refine G_r _ 4 rfl (by decide +kernel) (R_ld sc58 h) ?_
      intro v h
      refine G_p 5 rfl (by decide +kernel) (Y_mv h) ?_
      intro v h
      refine G_p 6 rfl (by decide +kernel) (Y_mv h) ?_
      intro v h
      refine G_e 7 rfl (by decide +kernel) (N_cf h ?_)
      intro v w h
      refine ⟨keepF_cons (kp_1 h) keepF_nil, ?_⟩
      replace h := (kp_2 h)
      refine G_e 8 rfl (by decide +kernel) (N_cl Tryd.func70 rfl nn70 (fun w Q h => s70 _ _ w Q h) h ?_)
      intro v w h
      refine ⟨keepF_dep [4] (by decide +kernel) rfl keepF_nil, ?_⟩
      refine G_e 9 rfl (by decide +kernel) (N_bsl h ?_)
      intro v w h
      refine ⟨keepF_dep [8, 4] (by decide +kernel) rfl keepF_nil, ?_⟩
      refine G_e 10 rfl (by decide +kernel) (N_bi rfl h ?_)
      intro v w h
      refine ⟨keepF_dep [8, 4] (by decide +kernel) rfl keepF_nil, ?_⟩
      refine G_p 11 rfl (by decide +kernel) (Y_as h) ?_
      intro v h
      refine G_done (by decide +kernel) ?_
      refine B_n ?_
      refine E_n ?_
      refine L_region ?_
      refine L_u (P_ad h) ?_
      intro v w h
      refine L_mv ?_
      refine L_nil ?_
      refine E_n ?_
      exact L2 _ _ h
    · refine C_exit ?_
      refine E_x ?_
      refine E_x ?_
      refine B_x ?_
      exact J1 _ _ h
  · unfold f68_j1 at h
    refine E_n ?_
    refine wp_seq ?_
    refine L_region ?_
    refine L_mv ?_
    refine L_u (N_cl Tryd.func25 rfl nn25 (fun w Q h => s25 _ w Q h) h) ?_
    intro v w h
    refine L_mv ?_
    refine L_u (P_ex h) ?_
    intro v w h
    refine L_u (P_ex h) ?_
    intro v w h
    refine L_as ?_
    refine L_as ?_
    refine L_nil ?_
    refine E_n ?_
    refine wp_seq ?_
    refine L_region ?_
    refine L_mv ?_
    refine L_as ?_
    refine L_nil ?_
    refine E_n ?_
    refine C_ret ?_
    show bodyPost Tryd.prog Tryd.f68 (Rt Q) .ret _ _
    exact post_tmps (ts := [4]) (.inr rfl) rfl h

/- factotum/pager.Open$1 -/
def f69 (t0 t1 : Value) : M :=
  ld t1 fun t4 =>
  cl (f21 t4 t0) fun t6 =>
  rt t6
theorem s69 (t0 t1 : Value) (w : World) (Q : Value → World → Prop) (h : f69 t0 t1 w Q) : Calls Tryd.prog 69 #[t0, t1] w (Rt Q) := by
  refine calls_of (l := [t0, t1]) Tryd.func69 rfl Tryd.ntmps69 (Nat.le_of_ble_eq_true rfl) ?_
  unfold f69 at h
  refine wp_seq ?_
  refine L_region ?_
  refine L_as ?_
  refine L_nil ?_
  refine E_n ?_
  refine wp_seq ?_
  refine L_region ?_
  refine L_u (P_ld sc3 h) ?_
  intro v w h
  refine L_mv ?_
  refine L_u (N_cl Tryd.func21 rfl nn21 (fun w Q h => s21 _ _ w Q h) h) ?_
  intro v w h
  refine L_as ?_
  refine L_nil ?_
  refine E_n ?_
  refine C_ret ?_
  show bodyPost Tryd.prog Tryd.f69 (Rt Q) .ret _ _
  exact post_tmps (ts := [3]) (.inr rfl) rfl h

/- (*factotum/device.Device).call -/
def f72 (t0 : Value) : M :=
  smr Tryd.prog (do eqGuard .eql 58 (.tmp 3) (.const (.pointer none)) t0 (.pointer none); binOp .eql 58 t0 (.pointer none)) fun t4 =>
  cnd t4 (
    rt (.int .i64 1)
    ) (
    nc t0 fun t6 =>
    fa 2 t6 fun t7 =>
    ld t7 fun t8 =>
    ad .i64 t8 (.int .i64 1) fun t9 =>
    nc t0 fun t10 =>
    fa 2 t10 fun t11 =>
    st t11 t9 <|
    dr <|
    idv t0 fun t12 =>
    nc t12 fun t13 =>
    fa 2 t13 fun t14 =>
    ld t14 fun t15 =>
    idv t0 fun t16 =>
    nc t16 fun t17 =>
    fa 3 t17 fun t18 =>
    ld t18 fun t19 =>
    gt .i64 t15 t19 fun t20 =>
    cnd t20 (
      rt (.int .i64 9)
      ) (
      rt (.int .i64 0)
      )
    )
theorem s72 (t0 : Value) (w : World) (Q : Value → World → Prop) (h : f72 t0 w Q) : Calls Tryd.prog 72 #[t0] w (Rt Q) := by
  refine calls_of (l := [t0]) Tryd.func72 rfl Tryd.ntmps72 (Nat.le_of_ble_eq_true rfl) ?_
  unfold f72 at h
  refine wp_seq ?_
  refine L_region ?_
  refine L_as ?_
  refine L_nil ?_
  refine E_n ?_
  refine wp_seq ?_
  refine wp_seq ?_
  refine L_region ?_
  refine L_mv ?_
  refine L_u (P_smr rfl h) ?_
  intro v w h
  refine L_nil ?_
  refine E_n ?_
  refine C_cnd h (fun h => ?_) (fun h => ?_)
  · refine wp_seq ?_
    refine L_region ?_
    refine L_as ?_
    refine L_nil ?_
    refine E_n ?_
    refine C_ret ?_
    show bodyPost Tryd.prog Tryd.f72 (Rt Q) .ret _ _
    exact post_tmps (ts := [2]) (.inr rfl) rfl h
  · refine C_skip ?_
    refine E_n ?_
    refine wp_seq ?_
    refine L_region ?_
    refine L_mv ?_
    refine L_u (P_nc h) ?_
    intro v w h
    refine L_u (P_fa fo108_2 h) ?_
    intro v w h
    refine L_u (P_ld sc3 h) ?_
    intro v w h
    refine L_u (P_ad h) ?_
    intro v w h
    refine L_u (P_nc h) ?_
    intro v w h
    refine L_u (P_fa fo108_2 h) ?_
    intro v w h
    refine L_u (P_st on3 h) ?_
    intro w h
    refine L_nil ?_
    refine E_n ?_
    refine wp_seq ?_
    refine wp_seq ?_
    refine D_region (by decide +kernel) 9 rfl ?_
    replace h := dr_e h
    refine G_p 0 rfl (by decide +kernel) (Y_mv h) ?_
    intro v h
    refine G_p 1 rfl (by decide +kernel) (Y_nc h) ?_
    intro v h
    refine G_p 2 rfl (by decide +kernel) (Y_fa fo108_2 h) ?_
    intro v h
    refine G_r _ 3 rfl (by decide +kernel) (R_ld sc3 h) ?_
    intro v h
    refine G_p 4 rfl (by decide +kernel) (Y_mv h) ?_
    intro v h
    refine G_p 5 rfl (by decide +kernel) (Y_nc h) ?_
    intro v h
    refine G_p 6 rfl (by decide +kernel) (Y_fa fo108_3 h) ?_
    intro v h
    refine G_r _ 7 rfl (by decide +kernel) (R_ld sc3 h) ?_
    intro v h
    refine G_p 8 rfl (by decide +kernel) (Y_gt h) ?_
    intro v h
    refine G_done (by decide +kernel) ?_
    refine E_n ?_
    refine C_cnd h (fun h => ?_) (fun h => ?_)
    · refine wp_seq ?_
      refine L_region ?_
      refine L_as ?_
      refine L_nil ?_
      refine E_n ?_
      refine C_ret ?_
      show bodyPost Tryd.prog Tryd.f72 (Rt Q) .ret _ _
      exact post_tmps (ts := [2]) (.inr rfl) rfl h
    · refine C_skip ?_
      refine E_n ?_
      refine wp_seq ?_
      refine L_region ?_
      refine L_as ?_
      refine L_nil ?_
      refine E_n ?_
      refine C_ret ?_
      show bodyPost Tryd.prog Tryd.f72 (Rt Q) .ret _ _
      exact post_tmps (ts := [2]) (.inr rfl) rfl h

/- (*factotum/device.Device).Sync -/
def f41_b2 (j1 : Value → M) (self2 : Value → Value → M) (t0_1 t15_1 : Value) : M :=
  sm Tryd.prog (Instr.next t15_1 false 0) fun t16 =>
  ex 0 t16 fun t17 =>
  cnd t17 (
    smr Tryd.prog (Instr.entry t15_1) fun t18 =>
    ex 0 t18 fun t19 =>
    ex 1 t18 fun t20 =>
    al 113 (Array.replicate 64 (.int .u8 0)) fun t5 =>
    stn 64 t5 t20 <|
    dr <|
    idv t0_1 fun t21 =>
    nc t21 fun t22 =>
    fa 0 t22 fun t23 =>
    ld t23 fun t24 =>
    idv t19 fun t25 =>
    ldn 64 t5 fun t26 =>
    ia 64 t24 t25 fun t27 =>
    stn 64 t27 t26 <|
    self2 t0_1 t15_1
    ) (
    j1 t0_1
    )
def f41_j1 (t0_2 : Value) : M :=
  nc t0_2 fun t29 =>
  fa 1 t29 fun t30 =>
  ld t30 fun t31 =>
  sm Tryd.prog (Builtin.clear_ #[106] 0 #[t31]) fun _ =>
  rt (.int .i64 0)
def f41 (t0 : Value) : M :=
  cl (f72 t0) fun t7 =>
  nei .i64 t7 (.int .i64 0) fun t9 =>
  cnd t9 (
    rt t7
    ) (
    nc t0 fun t12 =>
    fa 1 t12 fun t13 =>
    ld t13 fun t14 =>
    sm Tryd.prog (Instr.range 106 t14) fun t15 =>
    jn (fun (j1 : Value → M) =>
      lo (fun _ _ => bot) (f41_b2 j1) (fun l => l t0 t15)
      ) (f41_j1)
    )
theorem s41 (t0 : Value) (w : World) (Q : Value → World → Prop) (h : f41 t0 w Q) : Calls Tryd.prog 41 #[t0] w (Rt Q) := by
  refine calls_of (l := [t0]) Tryd.func41 rfl Tryd.ntmps41 (Nat.le_of_ble_eq_true rfl) ?_
  unfold f41 at h
  refine wp_seq ?_
  refine L_region ?_
  refine L_as ?_
  refine L_nil ?_
  refine E_n ?_
  refine wp_seq ?_
  refine wp_seq ?_
  refine L_region ?_
  refine L_mv ?_
  refine L_u (N_cl Tryd.func72 rfl nn72 (fun w Q h => s72 _ w Q h) h) ?_
  intro v w h
  refine L_as ?_
  refine L_nil ?_
  refine E_n ?_
  refine wp_seq ?_
  refine L_region ?_
  refine L_mv ?_
  refine L_u (P_nei h) ?_
  intro v w h
  refine L_nil ?_
  refine E_n ?_
  refine C_cnd h (fun h => ?_) (fun h => ?_)
  · refine wp_seq ?_
    refine L_region ?_
    refine L_mv ?_
    refine L_as ?_
    refine L_nil ?_
    refine E_n ?_
    refine C_ret ?_
    show bodyPost Tryd.prog Tryd.f41 (Rt Q) .ret _ _
    exact post_tmps (ts := [2]) (.inr rfl) rfl h
  · refine C_skip ?_
    refine E_n ?_
    refine wp_seq ?_
    refine wp_seq ?_
    refine L_region ?_
    refine L_mv ?_
    refine L_u (P_nc h) ?_
    intro v w h
    refine L_u (P_fa fo108_1 h) ?_
    intro v w h
    refine L_u (P_ld sc106 h) ?_
    intro v w h
    refine L_u (P_sm rfl h) ?_
    intro v w h
    refine L_nil ?_
    refine E_n ?_
    refine C_join (fun (k : Value → M) (ρ : Nat → Value) => k (ρ 0)) h (fun j1 J1 h => ?_) (fun ρ w h => ?_)
    · refine C_blk ?_
      refine C_lo (fun (l : Value → Value → M) (ρ : Nat → Value) => l (ρ 0) (ρ 15)) h (fun ρ w h => h) (fun nx self2 L2 ρ w h => ?_)
      unfold f41_b2 at h
      refine wp_seq ?_
      refine L_region ?_
      refine L_u (P_sm rfl h) ?_
      intro v w h
      refine L_u (P_ex h) ?_
      intro v w h
      refine L_nil ?_
      refine E_n ?_
      refine wp_seq ?_
      refine C_cnd h (fun h => ?_) (fun h => ?_)
      · refine C_skip ?_
        refine E_n ?_
        refine C_blk ?_
        refine wp_seq ?_
        refine L_region ?_
        refine L_u (P_smr rfl h) ?_
        intro v w h
        refine L_u (P_ex h) ?_
        intro v w h
        refine L_u (P_ex h) ?_
        intro v w h
        refine L_u (P_al ze113 rfl h) ?_
        intro v w h
        refine L_as ?_
        refine L_u (P_stn ag113 h) ?_
        intro w h
        refine L_nil ?_
        refine E_n ?_
        refine D_region (by decide +kernel) 8 rfl ?_
        replace h := dr_e h
        refine G_p 0 rfl (by decide +kernel) (Y_mv h) ?_
        intro v h
        refine G_p 1 rfl (by decide +kernel) (Y_nc h) ?_
        intro v h
        refine G_p 2 rfl (by decide +kernel) (Y_fa fo108_0 h) ?_
        intro v h
        refine G_r _ 3 rfl (by decide +kernel) (R_ld sc105 h) ?_
        intro v h
        refine G_p 4 rfl (by decide +kernel) (Y_mv h) ?_
        intro v h
        refine G_r _ 5 rfl (by decide +kernel) (R_ldn ag113 h) ?_
        intro v h
        refine G_p 6 rfl (by decide +kernel) (Y_ia se105 h) ?_
        intro v h
        refine G_e 7 rfl (by decide +kernel) (P_stn ag113 h ?_)
        intro w h
        refine ⟨keepF_dep [5] (by decide +kernel) rfl (keepF_dep [3] (by decide +kernel) rfl keepF_nil), ?_⟩
        refine G_done (by decide +kernel) ?_
        refine B_n ?_
        refine E_n ?_
        exact L2 _ _ h
      · refine C_exit ?_
        refine E_x ?_
        refine E_x ?_
        refine B_x ?_
        exact J1 _ _ h
    · unfold f41_j1 at h
      refine E_n ?_
      refine wp_seq ?_
      refine L_region ?_
      refine L_mv ?_
      refine L_u (P_nc h) ?_
      intro v w h
      refine L_u (P_fa fo108_1 h) ?_
      intro v w h
      refine L_u (P_ld sc106 h) ?_
      intro v w h
      refine L_u (N_bin rfl h) ?_
      intro w h
      refine L_nil ?_
      refine E_n ?_
      refine wp_seq ?_
      refine L_region ?_
      refine L_as ?_
      refine L_nil ?_
      refine E_n ?_
      refine C_ret ?_
      show bodyPost Tryd.prog Tryd.f41 (Rt Q) .ret _ _
      exact post_tmps (ts := [2]) (.inr rfl) rfl h

/- factotum/pager.all -/
def f74_b2 (j1 : M) (self2 : Value → Value → Value → M) (t6 t7_1 t8 : Value) : M :=
  lt .i64 t8 t7_1 fun t9 =>
  cnd t9 (
    ia 1 t6 t8 fun t10 =>
    ld t10 fun t11 =>
    cf Tryd.prog t11 #[] fun t13 =>
    nei .i64 t13 (.int .i64 0) fun t15 =>
    cnd t15 (
      rt t13
      ) (
      ad .i64 t8 (.int .i64 1) fun t17 =>
      self2 t6 t7_1 t17
      )
    ) (
    j1
    )
def f74_j1 : M :=
  rt (.int .i64 0)
def f74 (t0 : Value) : M :=
  lnl t0 fun t7 =>
  jn (fun (j1 : M) =>
    lo (fun _ _ _ => bot) (f74_b2 j1) (fun l => l t0 t7 (.int .i64 0))
    ) (f74_j1)
theorem s74 (t0 : Value) (w : World) (Q : Value → World → Prop) (h : f74 t0 w Q) : Calls Tryd.prog 74 #[t0] w (Rt Q) := by
  refine calls_of (l := [t0]) Tryd.func74 rfl Tryd.ntmps74 (Nat.le_of_ble_eq_true rfl) ?_
  unfold f74 at h
  refine wp_seq ?_
  refine L_region ?_
  refine L_as ?_
  refine L_nil ?_
  refine E_n ?_
  refine wp_seq ?_
  refine wp_seq ?_
  refine L_region ?_
  refine L_mv ?_
  refine L_u (P_lnl is116 h) ?_
  intro v w h
  refine L_mv ?_
  refine L_nil ?_
  refine E_n ?_
  refine C_join (fun (k : M) (ρ : Nat → Value) => k) h (fun j1 J1 h => ?_) (fun ρ w h => ?_)
  · refine C_blk ?_
    refine C_lo (fun (l : Value → Value → Value → M) (ρ : Nat → Value) => l (ρ 6) (ρ 7) (ρ 8)) h (fun ρ w h => h) (fun nx self2 L2 ρ w h => ?_)
    unfold f74_b2 at h
    refine wp_seq ?_
    refine L_region ?_
    refine L_u (P_lt h) ?_
    intro v w h
    refine L_nil ?_
    refine E_n ?_
    refine wp_seq ?_
    refine C_cnd h (fun h => ?_) (fun h => ?_)
    · refine C_skip ?_
      refine E_n ?_
      refine wp_seq ?_
      refine C_blk ?_
      refine wp_seq ?_
      refine L_region ?_
      refine L_u (P_ia se116 h) ?_
      intro v w h
      refine L_u (P_ld sc146 h) ?_
      intro v w h
      refine L_as ?_
      refine L_nil ?_
      refine E_n ?_
      refine wp_seq ?_
      refine L_region ?_
      refine L_mv ?_
      refine L_u (N_cf h) ?_
      intro v w h
      refine L_as ?_
      refine L_nil ?_
      refine E_n ?_
      refine wp_seq ?_
      refine L_region ?_
      refine L_mv ?_
      refine L_u (P_nei h) ?_
      intro v w h
      refine L_nil ?_
      refine E_n ?_
      refine C_cnd h (fun h => ?_) (fun h => ?_)
      · refine wp_seq ?_
        refine L_region ?_
        refine L_mv ?_
        refine L_as ?_
        refine L_nil ?_
        refine E_n ?_
        refine C_ret ?_
        show bodyPost Tryd.prog Tryd.f74 (Rt Q) .ret _ _
        exact post_tmps (ts := [2]) (.inr rfl) rfl h
      · refine C_skip ?_
        refine B_n ?_
        refine E_n ?_
        refine L_region ?_
        refine L_u (P_ad h) ?_
        intro v w h
        refine L_mv ?_
        refine L_nil ?_
        refine E_n ?_
        exact L2 _ _ h
    · refine C_exit ?_
      refine E_x ?_
      refine E_x ?_
      refine B_x ?_
      exact J1 _ _ h
  · unfold f74_j1 at h
    refine E_n ?_
    refine wp_seq ?_
    refine L_region ?_
    refine L_as ?_
    refine L_nil ?_
    refine E_n ?_
    refine C_ret ?_
    show bodyPost Tryd.prog Tryd.f74 (Rt Q) .ret _ _
    exact post_tmps (ts := [2]) (.inr rfl) rfl h

/- (*factotum/pager.Pager).recover$1 -/
def f94 (t0 t1 : Value) : M :=
  ld t1 fun t4 =>
  cl (f20 t4 t0) fun t6 =>
  rt t6
theorem s94 (t0 t1 : Value) (w : World) (Q : Value → World → Prop) (h : f94 t0 t1 w Q) : Calls Tryd.prog 94 #[t0, t1] w (Rt Q) := by
  refine calls_of (l := [t0, t1]) Tryd.func94 rfl Tryd.ntmps94 (Nat.le_of_ble_eq_true rfl) ?_
  unfold f94 at h
  refine wp_seq ?_
  refine L_region ?_
  refine L_as ?_
  refine L_nil ?_
  refine E_n ?_
  refine wp_seq ?_
  refine L_region ?_
  refine L_u (P_ld sc3 h) ?_
  intro v w h
  refine L_mv ?_
  refine L_u (N_cl Tryd.func20 rfl nn20 (fun w Q h => s20 _ _ w Q h) h) ?_
  intro v w h
  refine L_as ?_
  refine L_nil ?_
  refine E_n ?_
  refine C_ret ?_
  show bodyPost Tryd.prog Tryd.f94 (Rt Q) .ret _ _
  exact post_tmps (ts := [3]) (.inr rfl) rfl h

/- (*factotum/device.Device).Write -/
def f40 (t0 t1 t2 : Value) : M :=
  cl (f72 t0) fun t10 =>
  nei .i64 t10 (.int .i64 0) fun t12 =>
  cnd t12 (
    rt t10
    ) (
    lt .i64 t1 (.int .i64 0) fun t16 =>
    gd t16 false (idv t1) fun t18 =>
    gd t16 false (idv t0) fun t19 =>
    gd t16 false (nc t19) fun t20 =>
    gd t16 false (fa 0 t20) fun t21 =>
    gd t16 false (ld t21) fun t22 =>
    gd t16 false (lnl t22) fun t23 =>
    gd t16 false (ge .i64 t18 t23) fun t24 =>
    pk t16 (.bool true) t24 fun t25 =>
    cnd t25 (
      rt (.int .i64 7)
      ) (
      lns t2 fun t28 =>
      gt .i64 t28 (.int .i64 64) fun t29 =>
      cnd t29 (
        rt (.int .i64 3)
        ) (
        al 113 (Array.replicate 64 (.int .u8 0)) fun t8 =>
        sla 64 1 t8 none none fun t30 =>
        sm Tryd.prog (Builtin.copy_ #[66, 9] 3 #[t30, t2]) fun t32 =>
        dr <|
        idv t0 fun t33 =>
        nc t33 fun t34 =>
        fa 1 t34 fun t35 =>
        ld t35 fun t36 =>
        idv t1 fun t37 =>
        ldn 64 t8 fun t38 =>
        smu Tryd.prog (Instr.mapUpdate 106 t36 t37 t38) <|
        rt (.int .i64 0)
        )
      )
    )
theorem s40 (t0 t1 t2 : Value) (w : World) (Q : Value → World → Prop) (h : f40 t0 t1 t2 w Q) : Calls Tryd.prog 40 #[t0, t1, t2] w (Rt Q) := by
  refine calls_of (l := [t0, t1, t2]) Tryd.func40 rfl Tryd.ntmps40 (Nat.le_of_ble_eq_true rfl) ?_
  unfold f40 at h
  refine wp_seq ?_
  refine L_region ?_
  refine L_as ?_
  refine L_nil ?_
  refine E_n ?_
  refine wp_seq ?_
  refine wp_seq ?_
  refine L_region ?_
  refine L_mv ?_
  refine L_u (N_cl Tryd.func72 rfl nn72 (fun w Q h => s72 _ w Q h) h) ?_
  intro v w h
  refine L_as ?_
  refine L_nil ?_
  refine E_n ?_
  refine wp_seq ?_
  refine L_region ?_
  refine L_mv ?_
  refine L_u (P_nei h) ?_
  intro v w h
  refine L_nil ?_
  refine E_n ?_
  refine C_cnd h (fun h => ?_) (fun h => ?_)
  · refine wp_seq ?_
    refine L_region ?_
    refine L_mv ?_
    refine L_as ?_
    refine L_nil ?_
    refine E_n ?_
    refine C_ret ?_
    show bodyPost Tryd.prog Tryd.f40 (Rt Q) .ret _ _
    exact post_tmps (ts := [6]) (.inr rfl) rfl h
  · refine C_skip ?_
    refine E_n ?_
    refine wp_seq ?_
    refine C_blk ?_
    refine wp_seq ?_
    refine L_region ?_
    refine L_mv ?_
    refine L_u (P_lt h) ?_
    intro v w h
    refine L_mv ?_
    refine L_g (t := 17) h rfl rfl (fun c h => P_mv h c) ?_
    intro v w h
    refine L_g (t := 17) h rfl rfl (fun c h => P_mv h c) ?_
    intro v w h
    refine L_g (t := 17) h rfl rfl (fun c h => P_nc h c) ?_
    intro v w h
    refine L_g (t := 17) h rfl rfl (fun c h => P_fa fo108_0 h c) ?_
    intro v w h
    refine L_g (t := 17) h rfl rfl (fun c h => P_ld sc105 h c) ?_
    intro v w h
    refine L_g (t := 17) h rfl rfl (fun c h => P_lnl is105 h c) ?_
    intro v w h
    refine L_g (t := 17) h rfl rfl (fun c h => P_ge h c) ?_
    intro v w h
    refine L_u (P_pk h) ?_
    intro v w h
    refine L_as ?_
    refine L_nil ?_
    refine E_n ?_
    refine C_cnd h (fun h => ?_) (fun h => ?_)
    · refine wp_seq ?_
      refine L_region ?_
      refine L_as ?_
      refine L_nil ?_
      refine E_n ?_
      refine C_ret ?_
      show bodyPost Tryd.prog Tryd.f40 (Rt Q) .ret _ _
      exact post_tmps (ts := [6]) (.inr rfl) rfl h
    · refine wp_seq ?_
      refine L_region ?_
      refine L_mv ?_
      refine L_u (P_lns st9 h) ?_
      intro v w h
      refine L_u (P_gt h) ?_
      intro v w h
      refine L_as ?_
      refine L_nil ?_
      refine E_n ?_
      refine C_cnd h (fun h => ?_) (fun h => ?_)
      · refine wp_seq ?_
        refine L_region ?_
        refine L_as ?_
        refine L_nil ?_
        refine E_n ?_
        refine C_ret ?_
        show bodyPost Tryd.prog Tryd.f40 (Rt Q) .ret _ _
        exact post_tmps (ts := [6]) (.inr rfl) rfl h
      · refine C_skip ?_
        refine B_n ?_
        refine E_n ?_
        refine wp_seq ?_
        refine L_region ?_
        refine L_u (P_al ze113 rfl h) ?_
        intro v w h
        refine L_nil ?_
        refine E_n ?_
        refine wp_seq ?_
        refine L_region ?_
        refine L_u (P_sla ae113 h) ?_
        intro v w h
        refine L_mv ?_
        refine L_u (N_bi rfl h) ?_
        intro v w h
        refine L_nil ?_
        refine E_n ?_
        refine wp_seq ?_
        refine D_region (by decide +kernel) 7 rfl ?_
        replace h := dr_e h
        refine G_p 0 rfl (by decide +kernel) (Y_mv h) ?_
        intro v h
        refine G_p 1 rfl (by decide +kernel) (Y_nc h) ?_
        intro v h
        refine G_p 2 rfl (by decide +kernel) (Y_fa fo108_1 h) ?_
        intro v h
        refine G_r _ 3 rfl (by decide +kernel) (R_ld sc106 h) ?_
        intro v h
        refine G_p 4 rfl (by decide +kernel) (Y_mv h) ?_
        intro v h
        refine G_r _ 5 rfl (by decide +kernel) (R_ldn ag113 h) ?_
        intro v h
        refine G_e 6 rfl (by decide +kernel) (P_smu rfl h ?_)
        intro w h
        refine ⟨keepF_dep [5] (by decide +kernel) rfl (keepF_dep [3] (by decide +kernel) rfl keepF_nil), ?_⟩
        refine G_done (by decide +kernel) ?_
        refine E_n ?_
        refine wp_seq ?_
        refine L_region ?_
        refine L_as ?_
        refine L_nil ?_
        refine E_n ?_
        refine C_ret ?_
        show bodyPost Tryd.prog Tryd.f40 (Rt Q) .ret _ _
        exact post_tmps (ts := [6]) (.inr rfl) rfl h

/- (*factotum/pager.Pager).write$1 -/
def f111 (t0 t1 t2 : Value) : M :=
  dr <|
  ld t0 fun t4 =>
  nc t4 fun t5 =>
  fa 0 t5 fun t6 =>
  ld t6 fun t7 =>
  ld t1 fun t8 =>
  ld t2 fun t9 =>
  cl (f40 t7 t8 t9) fun t10 =>
  idv t10 fun t3 =>
  rt t3
theorem s111 (t0 t1 t2 : Value) (w : World) (Q : Value → World → Prop) (h : f111 t0 t1 t2 w Q) : Calls Tryd.prog 111 #[t0, t1, t2] w (Rt Q) := by
  refine calls_of (l := [t0, t1, t2]) Tryd.func111 rfl Tryd.ntmps111 (Nat.le_of_ble_eq_true rfl) ?_
  unfold f111 at h
  refine wp_seq ?_
  refine L_region ?_
  refine L_as ?_
  refine L_nil ?_
  refine E_n ?_
  refine wp_seq ?_
  refine D_region (by decide +kernel) 8 rfl ?_
  replace h := dr_e h
  refine G_r _ 0 rfl (by decide +kernel) (R_ld sc49 h) ?_
  intro v h
  refine G_p 1 rfl (by decide +kernel) (Y_nc h) ?_
  intro v h
  refine G_p 2 rfl (by decide +kernel) (Y_fa fo110_0 h) ?_
  intro v h
  refine G_r _ 3 rfl (by decide +kernel) (R_ld sc58 h) ?_
  intro v h
  refine G_r _ 4 rfl (by decide +kernel) (R_ld sc3 h) ?_
  intro v h
  refine G_r _ 5 rfl (by decide +kernel) (R_ld sc9 h) ?_
  intro v h
  refine G_e 6 rfl (by decide +kernel) (N_cl Tryd.func40 rfl nn40 (fun w Q h => s40 _ _ _ w Q h) h ?_)
  intro v w h
  refine ⟨keepF_dep [5] (by decide +kernel) rfl (keepF_dep [4] (by decide +kernel) rfl (keepF_dep [3] (by decide +kernel) rfl (keepF_dep [3, 2, 1, 0] (by decide +kernel) rfl keepF_nil))), ?_⟩
  refine G_p 7 rfl (by decide +kernel) (Y_as h) ?_
  intro v h
  refine G_done (by decide +kernel) ?_
  refine E_n ?_
  refine C_ret ?_
  show bodyPost Tryd.prog Tryd.f111 (Rt Q) .ret _ _
  exact post_tmps (ts := [3]) (.inr rfl) rfl h

/- (*factotum/pager.Pager).write -/
def f100 (t0 t1 t2 : Value) : M :=
  bx 49 t0 fun t3 =>
  bx 3 t1 fun t4 =>
  bx 9 t2 fun t5 =>
  idv (.func (.func 111) #[] #[t3, t4, t5]) fun t7 =>
  rt t7
theorem s100 (t0 t1 t2 : Value) (w : World) (Q : Value → World → Prop) (h : f100 t0 t1 t2 w Q) : Calls Tryd.prog 100 #[t0, t1, t2] w (Rt Q) := by
  refine calls_of (l := [t0, t1, t2]) Tryd.func100 rfl Tryd.ntmps100 (Nat.le_of_ble_eq_true rfl) ?_
  unfold f100 at h
  refine wp_seq ?_
  refine L_region ?_
  refine L_u (P_bx h) ?_
  intro v w h
  refine L_u (P_bx h) ?_
  intro v w h
  refine L_u (P_bx h) ?_
  intro v w h
  refine L_as ?_
  refine L_nil ?_
  refine E_n ?_
  refine wp_seq ?_
  refine L_region ?_
  refine L_u (N_mf h) ?_
  intro v w h
  refine L_as ?_
  refine L_nil ?_
  refine E_n ?_
  refine C_ret ?_
  show bodyPost Tryd.prog Tryd.f100 (Rt Q) .ret _ _
  exact post_tmps (ts := [6]) (.inr rfl) rfl h

/- (*factotum/pager.Pager).page -/
def f95_b2 (j1 : Value → M) (self2 : Value → Value → Value → Value → Value → Value → M) (t0_1 t1_1 t9 t17 t18_1 t19 : Value) : M :=
  lt .i64 t19 t18_1 fun t20 =>
  cnd t20 (
    ia 1 t17 t19 fun t22 =>
    ld t22 fun t23 =>
    cf Tryd.prog t1_1 #[t19] fun t28 =>
    cl (f100 t0_1 t28 t23) fun t30 =>
    sm Tryd.prog (Instr.buildSlice 116 1 #[(0, t30)]) fun t31 =>
    sm Tryd.prog (Builtin.append_ #[116, 116] 116 #[t9, t31]) fun t32 =>
    ad .i64 t19 (.int .i64 1) fun t33 =>
    self2 t0_1 t1_1 t32 t17 t18_1 t33
    ) (
    j1 t9
    )
def f95_j1 (t9_1 : Value) : M :=
  rt t9_1
def f95 (t0 t1 t2 : Value) : M :=
  cl (f23 t2) fun t14 =>
  ex 0 t14 fun t15 =>
  ex 1 t14 fun t16 =>
  lnl t15 fun t18 =>
  jn (fun (j1 : Value → M) =>
    lo (fun _ _ _ _ _ _ => bot) (f95_b2 j1) (fun l => l t0 t1 (.slice none 0 0) t15 t18 (.int .i64 0))
    ) (f95_j1)
theorem s95 (t0 t1 t2 : Value) (w : World) (Q : Value → World → Prop) (h : f95 t0 t1 t2 w Q) : Calls Tryd.prog 95 #[t0, t1, t2] w (Rt Q) := by
  refine calls_of (l := [t0, t1, t2]) Tryd.func95 rfl Tryd.ntmps95 (Nat.le_of_ble_eq_true rfl) ?_
  unfold f95 at h
  refine wp_seq ?_
  refine L_region ?_
  refine L_as ?_
  refine L_nil ?_
  refine E_n ?_
  refine wp_seq ?_
  refine L_region ?_
  refine L_mv ?_
  refine L_u (N_cl Tryd.func23 rfl nn23 (fun w Q h => s23 _ w Q h) h) ?_
  intro v w h
  refine L_mv ?_
  refine L_u (P_ex h) ?_
  intro v w h
  refine L_u (P_ex h) ?_
  intro v w h
  refine L_as ?_
  refine L_as ?_
  refine L_nil ?_
  refine E_n ?_
  refine wp_seq ?_
  refine L_region ?_
  refine L_as ?_
  refine L_nil ?_
  refine E_n ?_
  refine wp_seq ?_
  refine wp_seq ?_
  refine L_region ?_
  refine L_mv ?_
  refine L_u (P_lnl is39 h) ?_
  intro v w h
  refine L_mv ?_
  refine L_nil ?_
  refine E_n ?_
  refine C_join (fun (k : Value → M) (ρ : Nat → Value) => k (ρ 9)) h (fun j1 J1 h => ?_) (fun ρ w h => ?_)
  · refine C_blk ?_
    refine C_lo (fun (l : Value → Value → Value → Value → Value → Value → M) (ρ : Nat → Value) => l (ρ 0) (ρ 1) (ρ 9) (ρ 17) (ρ 18) (ρ 19)) h (fun ρ w h => h) (fun nx self2 L2 ρ w h => ?_)
    unfold f95_b2 at h
    refine wp_seq ?_
    refine L_region ?_
    refine L_u (P_lt h) ?_
    intro v w h
    refine L_nil ?_
    refine E_n ?_
    refine wp_seq ?_
    refine C_cnd h (fun h => ?_) (fun h => ?_)
    · refine C_skip ?_
      refine E_n ?_
      refine wp_seq ?_
      refine C_blk ?_
      refine wp_seq ?_
      refine L_region ?_
      refine L_mv ?_
      refine L_u (P_ia se39 h) ?_
      intro v w h
      refine L_u (P_ld sc9 h) ?_
      intro v w h
      refine L_as ?_
      refine L_as ?_
      refine L_nil ?_
      refine E_n ?_
      refine L_region ?_
      refine L_mv ?_
      refine L_mv ?_
      refine L_mv ?_
      refine L_mv ?_
      refine L_u (N_cf h) ?_
      intro v w h
      refine L_mv ?_
      refine L_u (N_cl Tryd.func100 rfl nn100 (fun w Q h => s100 _ _ _ w Q h) h) ?_
      intro v w h
      refine L_u (N_bsl h) ?_
      intro v w h
      refine L_u (N_bi rfl h) ?_
      intro v w h
      refine L_as ?_
      refine L_nil ?_
      refine B_n ?_
      refine E_n ?_
      refine L_region ?_
      refine L_u (P_ad h) ?_
      intro v w h
      refine L_mv ?_
      refine L_nil ?_
      refine E_n ?_
      exact L2 _ _ h
    · refine C_exit ?_
      refine E_x ?_
      refine E_x ?_
      refine B_x ?_
      exact J1 _ _ h
  · unfold f95_j1 at h
    refine E_n ?_
    refine wp_seq ?_
    refine L_region ?_
    refine L_mv ?_
    refine L_as ?_
    refine L_nil ?_
    refine E_n ?_
    refine C_ret ?_
    show bodyPost Tryd.prog Tryd.f95 (Rt Q) .ret _ _
    exact post_tmps (ts := [6]) (.inr rfl) rfl h

/- (*factotum/pager.Pager).recover$2 -/
def f96 (t0 t1 : Value) : M :=
  ld t1 fun t4 =>
  cl (f21 t4 t0) fun t6 =>
  rt t6
theorem s96 (t0 t1 : Value) (w : World) (Q : Value → World → Prop) (h : f96 t0 t1 w Q) : Calls Tryd.prog 96 #[t0, t1] w (Rt Q) := by
  refine calls_of (l := [t0, t1]) Tryd.func96 rfl Tryd.ntmps96 (Nat.le_of_ble_eq_true rfl) ?_
  unfold f96 at h
  refine wp_seq ?_
  refine L_region ?_
  refine L_as ?_
  refine L_nil ?_
  refine E_n ?_
  refine wp_seq ?_
  refine L_region ?_
  refine L_u (P_ld sc3 h) ?_
  intro v w h
  refine L_mv ?_
  refine L_u (N_cl Tryd.func21 rfl nn21 (fun w Q h => s21 _ _ w Q h) h) ?_
  intro v w h
  refine L_as ?_
  refine L_nil ?_
  refine E_n ?_
  refine C_ret ?_
  show bodyPost Tryd.prog Tryd.f96 (Rt Q) .ret _ _
  exact post_tmps (ts := [3]) (.inr rfl) rfl h

/- (*factotum/pager.Pager).mark -/
def f97 (t0 t1 : Value) : M :=
  dr <|
  idv t0 fun t5 =>
  idv t1 fun t6 =>
  idv t0 fun t9 =>
  nc t9 fun t10 =>
  fa 0 t10 fun t11 =>
  ld t11 fun t12 =>
  idv (.func (.func 41) #[t12] #[]) fun t13 =>
  cl (f18 t6) fun t7 =>
  kp (Kld t11 t12) <|
  cl (f100 t5 (.int .i64 0) t7) fun t8 =>
  kp (Kld t11 t12) <|
  sm Tryd.prog (Instr.buildSlice 116 2 #[(0, t8), (1, t13)]) fun t14 =>
  idv t14 fun t4 =>
  rt t4
theorem s97 (t0 t1 : Value) (w : World) (Q : Value → World → Prop) (h : f97 t0 t1 w Q) : Calls Tryd.prog 97 #[t0, t1] w (Rt Q) := by
  refine calls_of (l := [t0, t1]) Tryd.func97 rfl Tryd.ntmps97 (Nat.le_of_ble_eq_true rfl) ?_
  unfold f97 at h
  refine wp_seq ?_
  refine L_region ?_
  refine L_as ?_
  refine L_nil ?_
  refine E_n ?_
  refine wp_seq ?_
  refine D_region (by decide +kernel) 11 rfl ?_
  replace h := dr_e h
  refine G_p 0 rfl (by decide +kernel) (Y_mv h) ?_
  intro v h
  refine G_p 1 rfl (by decide +kernel) (Y_mv h) ?_
  intro v h
  refine G_p 4 rfl (by decide +kernel) (Y_mv h) ?_
  intro v h
  refine G_p 5 rfl (by decide +kernel) (Y_nc h) ?_
  intro v h
  refine G_p 6 rfl (by decide +kernel) (Y_fa fo110_0 h) ?_
  intro v h
  refine G_r _ 7 rfl (by decide +kernel) (R_ld sc58 h) ?_
  intro v h
  refine G_p 8 rfl (by decide +kernel) (Y_nmf h) ?_
  intro v h
  refine G_e 2 rfl (by decide +kernel) (N_cl Tryd.func18 rfl nn18 (fun w Q h => s18 _ w Q h) h ?_)
  intro v w h
  refine ⟨keepF_cons (kp_1 h) keepF_nil, ?_⟩
  replace h := (kp_2 h)
  refine G_e 3 rfl (by decide +kernel) (N_cl Tryd.func100 rfl nn100 (fun w Q h => s100 _ _ _ w Q h) h ?_)
  intro v w h
  refine ⟨keepF_cons (kp_1 h) keepF_nil, ?_⟩
  replace h := (kp_2 h)
  refine G_e 9 rfl (by decide +kernel) (N_bsl h ?_)
  intro v w h
  refine ⟨keepF_dep [8, 7] (by decide +kernel) rfl keepF_nil, ?_⟩
  refine G_p 10 rfl (by decide +kernel) (Y_as h) ?_
  intro v h
  refine G_done (by decide +kernel) ?_
  refine E_n ?_
  refine C_ret ?_
  show bodyPost Tryd.prog Tryd.f97 (Rt Q) .ret _ _
  exact post_tmps (ts := [4]) (.inr rfl) rfl h
end Go.Proofs.YtongpnolikkknaaDoor

set_option maxRecDepth 20000
set_option maxHeartbeats 4000000
namespace Go.Proofs.YtongpnolikkknaaDoor
open Sh
attribute [local irreducible] wpL anyG act jn lo gdB amb kp smr nc fa ld ldn st stn ad su mu qu re lt le gt ge eqi nei bws shl shr cat eqs nes lts gts eqb neb nt pk cv al bx ex fld fldn lnl lns ia iaa ixs sls sll sla mif mnm mxm mm asrt sm smu cl cc cf ci cnd gd gdu
/- (*factotum/pager.Pager).recover -/
def f71_b2 (j1 : Value → Value → M) (self2 : Value → Value → Value → Value → Value → M) (t0_1 t5 t19 t20_1 t21 : Value) : M :=
  lt .i64 t21 t20_1 fun t22 =>
  cnd t22 (
    ia 1 t19 t21 fun t24 =>
    ld t24 fun t25 =>
    al 3 #[(.int .i64 0)] fun t6 =>
    al 3 #[(.int .i64 0)] fun t7 =>
    st t6 t21 <|
    st t7 t25 <|
    dr <|
    ld t7 fun t26 =>
    idv t0_1 fun t27 =>
    nc t27 fun t28 =>
    fa 1 t28 fun t29 =>
    ld t29 fun t30 =>
    lnl t30 fun t31 =>
    ge .i64 t26 t31 fun t32 =>
    cnd t32 (
      rt (.int .i64 10)
      ) (
      dr <|
      idv t0_1 fun t33 =>
      nc t33 fun t34 =>
      fa 1 t34 fun t35 =>
      ld t35 fun t36 =>
      ld t7 fun t37 =>
      idv t0_1 fun t38 =>
      idv (.func (.func 94) #[] #[t6]) fun t39 =>
      cl (f68 t38 t39) fun t40 =>
      kp (Kld t7 t37) <|
      kp (Kld t35 t36) <|
      ia 1 t36 t37 fun t41 =>
      st t41 t40 <|
      dr <|
      idv t5 fun t42 =>
      idv t0_1 fun t43 =>
      idv (.func (.func 96) #[] #[t7]) fun t44 =>
      idv t0_1 fun t45 =>
      nc t45 fun t46 =>
      fa 1 t46 fun t47 =>
      ld t47 fun t48 =>
      ld t7 fun t49 =>
      ia 1 t48 t49 fun t50 =>
      ld t50 fun t51 =>
      cl (f95 t43 t44 t51) fun t52 =>
      sm Tryd.prog (Builtin.append_ #[116, 116] 116 #[t42, t52]) fun t53 =>
      idv t53 fun t5_1 =>
      ad .i64 t21 (.int .i64 1) fun t54 =>
      self2 t0_1 t5_1 t19 t20_1 t54
      )
    ) (
    j1 t0_1 t5
    )
def f71_j1 (t0_2 t5_2 : Value) : M :=
  nc t0_2 fun t57 =>
  fa 0 t57 fun t58 =>
  ld t58 fun t59 =>
  idv (.func (.func 41) #[t59] #[]) fun t60 =>
  sm Tryd.prog (Instr.buildSlice 116 1 #[(0, t60)]) fun t61 =>
  sm Tryd.prog (Builtin.append_ #[116, 116] 116 #[t5_2, t61]) fun t62 =>
  cl (f97 t0_2 (.bool false)) fun t64 =>
  sm Tryd.prog (Builtin.append_ #[116, 116] 116 #[t62, t64]) fun t65 =>
  cl (f74 t65) fun t67 =>
  rt t67
def f71 (t0 : Value) : M :=
  nc t0 fun t10 =>
  fa 0 t10 fun t11 =>
  ld t11 fun t12 =>
  cl (f70 t12 (.int .i64 1)) fun t13 =>
  cl (f15 t13) fun t14 =>
  ex 0 t14 fun t15 =>
  ex 1 t14 fun t16 =>
  nei .i64 t16 (.int .i64 0) fun t18 =>
  cnd t18 (
    rt (.int .i64 10)
    ) (
    lnl t15 fun t20 =>
    jn (fun (j1 : Value → Value → M) =>
      lo (fun _ _ _ _ _ => bot) (f71_b2 j1) (fun l => l t0 (.slice none 0 0) t15 t20 (.int .i64 0))
      ) (f71_j1)
    )
theorem s71 (t0 : Value) (w : World) (Q : Value → World → Prop) (h : f71 t0 w Q) : Calls Tryd.prog 71 #[t0] w (Rt Q) := by
  refine calls_of (l := [t0]) Tryd.func71 rfl Tryd.ntmps71 (Nat.le_of_ble_eq_true rfl) ?_
  unfold f71 at h
  refine wp_seq ?_
  refine L_region ?_
  refine L_as ?_
  refine L_nil ?_
  refine E_n ?_
  refine wp_seq ?_
  refine L_region ?_
  refine L_mv ?_
  refine L_u (P_nc h) ?_
  intro v w h
  refine L_u (P_fa fo110_0 h) ?_
  intro v w h
  refine L_u (P_ld sc58 h) ?_
  intro v w h
  refine L_u (N_cl Tryd.func70 rfl nn70 (fun w Q h => s70 _ _ w Q h) h) ?_
  intro v w h
  refine L_u (N_cl Tryd.func15 rfl nn15 (fun w Q h => s15 _ w Q h) h) ?_
  intro v w h
  refine L_mv ?_
  refine L_u (P_ex h) ?_
  intro v w h
  refine L_u (P_ex h) ?_
  intro v w h
  refine L_as ?_
  refine L_as ?_
  refine L_nil ?_
  refine E_n ?_
  refine wp_seq ?_
  refine wp_seq ?_
  refine L_region ?_
  refine L_mv ?_
  refine L_u (P_nei h) ?_
  intro v w h
  refine L_nil ?_
  refine E_n ?_
  refine C_cnd h (fun h => ?_) (fun h => ?_)
  · refine wp_seq ?_
    refine L_region ?_
    refine L_as ?_
    refine L_nil ?_
    refine E_n ?_
    refine C_ret ?_
    show bodyPost Tryd.prog Tryd.f71 (Rt Q) .ret _ _
    exact post_tmps (ts := [2]) (.inr rfl) rfl h
  · refine C_skip ?_
    refine E_n ?_
    refine wp_seq ?_
    refine L_region ?_
    refine L_as ?_
    refine L_nil ?_
    refine E_n ?_
    refine wp_seq ?_
    refine wp_seq ?_
    refine L_region ?_
    refine L_mv ?_
    refine L_u (P_lnl is22 h) ?_
    intro v w h
    refine L_mv ?_
    refine L_nil ?_
    refine E_n ?_
    refine C_join (fun (k : Value → Value → M) (ρ : Nat → Value) => k (ρ 0) (ρ 5)) h (fun j1 J1 h => ?_) (fun ρ w h => ?_)
    · refine C_blk ?_
      refine C_lo (fun (l : Value → Value → Value → Value → Value → M) (ρ : Nat → Value) => l (ρ 0) (ρ 5) (ρ 19) (ρ 20) (ρ 21)) h (fun ρ w h => h) (fun nx self2 L2 ρ w h => ?_)
      unfold f71_b2 at h
      refine wp_seq ?_
      refine L_region ?_
      refine L_u (P_lt h) ?_
      intro v w h
      refine L_nil ?_
      refine E_n ?_
      refine wp_seq ?_
      refine C_cnd h (fun h => ?_) (fun h => ?_)
      · refine C_skip ?_
        refine E_n ?_
        refine wp_seq ?_
        refine C_blk ?_
        refine wp_seq ?_
        refine L_region ?_
        refine L_mv ?_
        refine L_u (P_ia se22 h) ?_
        intro v w h
        refine L_u (P_ld sc3 h) ?_
        intro v w h
        refine L_u (P_al ze3 rfl h) ?_
        intro v w h
        refine L_u (P_al ze3 rfl h) ?_
        intro v w h
        refine L_u (P_st on3 h) ?_
        intro w h
        refine L_u (P_st on3 h) ?_
        intro w h
        refine L_nil ?_
        refine E_n ?_
        refine wp_seq ?_
        refine wp_seq ?_
        refine D_region (by decide +kernel) 7 rfl ?_
        replace h := dr_e h
        refine G_r _ 0 rfl (by decide +kernel) (R_ld sc3 h) ?_
        intro v h
        refine G_p 1 rfl (by decide +kernel) (Y_mv h) ?_
        intro v h
        refine G_p 2 rfl (by decide +kernel) (Y_nc h) ?_
        intro v h
        refine G_p 3 rfl (by decide +kernel) (Y_fa fo110_1 h) ?_
        intro v h
        refine G_r _ 4 rfl (by decide +kernel) (R_ld sc39 h) ?_
        intro v h
        refine G_p 5 rfl (by decide +kernel) (Y_lnl is39 h) ?_
        intro v h
        refine G_p 6 rfl (by decide +kernel) (Y_ge h) ?_
        intro v h
        refine G_done (by decide +kernel) ?_
        refine E_n ?_
        refine C_cnd h (fun h => ?_) (fun h => ?_)
        · refine wp_seq ?_
          refine L_region ?_
          refine L_as ?_
          refine L_nil ?_
          refine E_n ?_
          refine C_ret ?_
          show bodyPost Tryd.prog Tryd.f71 (Rt Q) .ret _ _
          exact post_tmps (ts := [2]) (.inr rfl) rfl h
        · refine C_skip ?_
          refine E_n ?_
          refine wp_seq ?_
          refine D_region (by decide +kernel) 10 rfl ?_
          replace h := dr_e h
          refine G_p 0 rfl (by decide +kernel) (Y_mv h) ?_
          intro v h
          refine G_p 1 rfl (by decide +kernel) (Y_nc h) ?_
          intro v h
          refine G_p 2 rfl (by decide +kernel) (Y_fa fo110_1 h) ?_
          intro v h
          refine G_r _ 3 rfl (by decide +kernel) (R_ld sc39 h) ?_
          intro v h
          refine G_r _ 4 rfl (by decide +kernel) (R_ld sc3 h) ?_
          intro v h
          refine G_p 5 rfl (by decide +kernel) (Y_mv h) ?_
          intro v h
          refine G_p 6 rfl (by decide +kernel) (Y_nmf h) ?_
          intro v h
          refine G_e 7 rfl (by decide +kernel) (N_cl Tryd.func68 rfl nn68 (fun w Q h => s68 _ _ w Q h) h ?_)
          intro v w h
          refine ⟨keepF_cons (kp_1 h) (keepF_cons (kp_1 (kp_2 h)) keepF_nil), ?_⟩
          replace h := (kp_2 (kp_2 h))
          refine G_p 8 rfl (by decide +kernel) (Y_ia se39 h) ?_
          intro v h
          refine G_e 9 rfl (by decide +kernel) (P_st on9 h ?_)
          intro w h
          refine ⟨keepF_dep [4] (by decide +kernel) rfl (keepF_dep [3] (by decide +kernel) rfl keepF_nil), ?_⟩
          refine G_done (by decide +kernel) ?_
          refine E_n ?_
          refine D_region (by decide +kernel) 13 rfl ?_
          replace h := dr_e h
          refine G_p 0 rfl (by decide +kernel) (Y_mv h) ?_
          intro v h
          refine G_p 1 rfl (by decide +kernel) (Y_mv h) ?_
          intro v h
          refine G_p 2 rfl (by decide +kernel) (Y_nmf h) ?_
          intro v h
          refine G_p 3 rfl (by decide +kernel) (Y_mv h) ?_
          intro v h
          refine G_p 4 rfl (by decide +kernel) (Y_nc h) ?_
          intro v h
          refine G_p 5 rfl (by decide +kernel) (Y_fa fo110_1 h) ?_
          intro v h
          refine G_r _ 6 rfl (by decide +kernel) (R_ld sc39 h) ?_
          intro v h
          refine G_r _ 7 rfl (by decide +kernel) (R_ld sc3 h) ?_
          intro v h
          refine G_p 8 rfl (by decide +kernel) (Y_ia se39 h) ?_
          intro v h
          refine G_r _ 9 rfl (by decide +kernel) (R_ld sc9 h) ?_
          intro v h
          refine G_e 10 rfl (by decide +kernel) (N_cl Tryd.func95 rfl nn95 (fun w Q h => s95 _ _ _ w Q h) h ?_)
          intro v w h
          refine ⟨keepF_dep [9] (by decide +kernel) rfl (keepF_dep [9, 8, 7] (by decide +kernel) rfl (keepF_dep [9, 8, 6] (by decide +kernel) rfl keepF_nil)), ?_⟩
          refine G_e 11 rfl (by decide +kernel) (N_bi rfl h ?_)
          intro v w h
          refine ⟨keepF_dep [10, 9] (by decide +kernel) rfl (keepF_dep [10, 9, 8, 7] (by decide +kernel) rfl (keepF_dep [10, 9, 8, 6] (by decide +kernel) rfl keepF_nil)), ?_⟩
          refine G_p 12 rfl (by decide +kernel) (Y_as h) ?_
          intro v h
          refine G_done (by decide +kernel) ?_
          refine B_n ?_
          refine E_n ?_
          refine L_region ?_
          refine L_u (P_ad h) ?_
          intro v w h
          refine L_mv ?_
          refine L_nil ?_
          refine E_n ?_
          exact L2 _ _ h
      · refine C_exit ?_
        refine E_x ?_
        refine E_x ?_
        refine B_x ?_
        exact J1 _ _ h
    · unfold f71_j1 at h
      refine E_n ?_
      refine wp_seq ?_
      refine L_region ?_
      refine L_mv ?_
      refine L_mv ?_
      refine L_u (P_nc h) ?_
      intro v w h
      refine L_u (P_fa fo110_0 h) ?_
      intro v w h
      refine L_u (P_ld sc58 h) ?_
      intro v w h
      refine L_u (N_mf h) ?_
      intro v w h
      refine L_u (N_bsl h) ?_
      intro v w h
      refine L_u (N_bi rfl h) ?_
      intro v w h
      refine L_mv ?_
      refine L_u (N_cl Tryd.func97 rfl nn97 (fun w Q h => s97 _ _ w Q h) h) ?_
      intro v w h
      refine L_u (N_bi rfl h) ?_
      intro v w h
      refine L_as ?_
      refine L_nil ?_
      refine E_n ?_
      refine wp_seq ?_
      refine L_region ?_
      refine L_mv ?_
      refine L_u (N_cl Tryd.func74 rfl nn74 (fun w Q h => s74 _ w Q h) h) ?_
      intro v w h
      refine L_as ?_
      refine L_nil ?_
      refine E_n ?_
      refine C_ret ?_
      show bodyPost Tryd.prog Tryd.f71 (Rt Q) .ret _ _
      exact post_tmps (ts := [2]) (.inr rfl) rfl h

/- factotum/pager.Open -/
def f38_b2 (j1 : Value → Value → M) (self2 : Value → Value → Value → Value → M) (t0_1 t6 t29 t30 : Value) : M :=
  lt .i64 t30 t29 fun t31 =>
  cnd t31 (
    al 3 #[(.int .i64 0)] fun t7 =>
    st t7 t30 <|
    dr <|
    idv t6 fun t33 =>
    idv t6 fun t34 =>
    nc t34 fun t35 =>
    fa 1 t35 fun t36 =>
    ld t36 fun t37 =>
    idv t6 fun t38 =>
    idv (.func (.func 69) #[] #[t7]) fun t39 =>
    cl (f68 t38 t39) fun t40 =>
    kp (Kld t36 t37) <|
    sm Tryd.prog (Instr.buildSlice 39 1 #[(0, t40)]) fun t41 =>
    kp (Kld t36 t37) <|
    sm Tryd.prog (Builtin.append_ #[39, 39] 39 #[t37, t41]) fun t42 =>
    nc t33 fun t43 =>
    fa 1 t43 fun t44 =>
    st t44 t42 <|
    ad .i64 t30 (.int .i64 1) fun t45 =>
    self2 t0_1 t6 t29 t45
    ) (
    j1 t0_1 t6
    )
def f38_j3 (t6_2 : Value) : M :=
  rt (.tuple #[t6_2, (.int .i64 0)])
def f38_j1 (t0_2 t6_1 : Value) : M :=
  cl (f70 t0_2 (.int .i64 0)) fun t47 =>
  cl (f19 t47) fun t48 =>
  jn (fun (j3 : Value → M) =>
    cnd t48 (
      cl (f71 t6_1) fun t50 =>
      nei .i64 t50 (.int .i64 0) fun t52 =>
      cnd t52 (
        rt (.tuple #[(.pointer none), t50])
        ) (
        j3 t6_1
        )
      ) (
      j3 t6_1
      )
    ) (f38_j3)
def f38 (t0 t1 : Value) : M :=
  smr Tryd.prog (do eqGuard .eql 58 (.tmp 9) (.const (.pointer none)) t0 (.pointer none); binOp .eql 58 t0 (.pointer none)) fun t10 =>
  gd t10 false (idv t1) fun t12 =>
  gd t10 false (lt .i64 t12 (.int .i64 1)) fun t13 =>
  pk t10 (.bool true) t13 fun t14 =>
  gd t14 false (idv t1) fun t16 =>
  gd t14 false (gt .i64 t16 (.int .i64 160)) fun t17 =>
  pk t14 (.bool true) t17 fun t18 =>
  gd t18 false (idv t0) fun t20 =>
  gd t18 false (cl (f39 t20)) fun t21 =>
  gd t18 false (idv t1) fun t22 =>
  gd t18 false (cl (f22 t22)) fun t23 =>
  gd t18 false (lt .i64 t21 t23) fun t24 =>
  pk t18 (.bool true) t24 fun t25 =>
  cnd t25 (
    rt (.tuple #[(.pointer none), (.int .i64 1)])
    ) (
    smr Tryd.prog (Instr.build 110 #[(0, t0)]) fun t27 =>
    bx 110 t27 fun t28 =>
    jn (fun (j1 : Value → Value → M) =>
      lo (fun _ _ _ _ => bot) (f38_b2 j1) (fun l => l t0 t28 t1 (.int .i64 0))
      ) (f38_j1)
    )
theorem s38 (t0 t1 : Value) (w : World) (Q : Value → World → Prop) (h : f38 t0 t1 w Q) : Calls Tryd.prog 38 #[t0, t1] w (Rt Q) := by
  refine calls_of (l := [t0, t1]) Tryd.func38 rfl Tryd.ntmps38 (Nat.le_of_ble_eq_true rfl) ?_
  unfold f38 at h
  refine wp_seq ?_
  refine L_region ?_
  refine L_as ?_
  refine L_as ?_
  refine L_nil ?_
  refine E_n ?_
  refine wp_seq ?_
  refine wp_seq ?_
  refine L_region ?_
  refine L_mv ?_
  refine L_u (P_smr rfl h) ?_
  intro v w h
  refine L_mv ?_
  refine L_g (t := 11) h rfl rfl (fun c h => P_mv h c) ?_
  intro v w h
  refine L_g (t := 11) h rfl rfl (fun c h => P_lt h c) ?_
  intro v w h
  refine L_u (P_pk h) ?_
  intro v w h
  refine L_mv ?_
  refine L_g (t := 15) h rfl rfl (fun c h => P_mv h c) ?_
  intro v w h
  refine L_g (t := 15) h rfl rfl (fun c h => P_gt h c) ?_
  intro v w h
  refine L_u (P_pk h) ?_
  intro v w h
  refine L_mv ?_
  refine L_g (t := 19) h rfl rfl (fun c h => P_mv h c) ?_
  intro v w h
  refine L_g (t := 19) h rfl rfl (fun c h => N_cl Tryd.func39 rfl nn39 (fun w Q h => s39 _ w Q h) h c) ?_
  intro v w h
  refine L_g (t := 19) h rfl rfl (fun c h => P_mv h c) ?_
  intro v w h
  refine L_g (t := 19) h rfl rfl (fun c h => N_cl Tryd.func22 rfl nn22 (fun w Q h => s22 _ w Q h) h c) ?_
  intro v w h
  refine L_g (t := 19) h rfl rfl (fun c h => P_lt h c) ?_
  intro v w h
  refine L_u (P_pk h) ?_
  intro v w h
  refine L_nil ?_
  refine E_n ?_
  refine C_cnd h (fun h => ?_) (fun h => ?_)
  · refine wp_seq ?_
    refine L_region ?_
    refine L_as ?_
    refine L_as ?_
    refine L_nil ?_
    refine E_n ?_
    refine C_ret ?_
    show bodyPost Tryd.prog Tryd.f38 (Rt Q) .ret _ _
    exact post_tmps (ts := [4, 5]) (.inr rfl) rfl h
  · refine C_skip ?_
    refine E_n ?_
    refine wp_seq ?_
    refine L_region ?_
    refine L_mv ?_
    refine L_u (N_bld h) ?_
    intro v w h
    refine L_u (P_bx h) ?_
    intro v w h
    refine L_as ?_
    refine L_nil ?_
    refine E_n ?_
    refine wp_seq ?_
    refine wp_seq ?_
    refine L_region ?_
    refine L_mv ?_
    refine L_mv ?_
    refine L_nil ?_
    refine E_n ?_
    refine C_join (fun (k : Value → Value → M) (ρ : Nat → Value) => k (ρ 0) (ρ 6)) h (fun j1 J1 h => ?_) (fun ρ w h => ?_)
    · refine C_blk ?_
      refine C_lo (fun (l : Value → Value → Value → Value → M) (ρ : Nat → Value) => l (ρ 0) (ρ 6) (ρ 29) (ρ 30)) h (fun ρ w h => h) (fun nx self2 L2 ρ w h => ?_)
      unfold f38_b2 at h
      refine wp_seq ?_
      refine L_region ?_
      refine L_u (P_lt h) ?_
      intro v w h
      refine L_nil ?_
      refine E_n ?_
      refine wp_seq ?_
      refine C_cnd h (fun h => ?_) (fun h => ?_)
      · refine C_skip ?_
        refine E_n ?_
        refine wp_seq ?_
        refine C_blk ?_
        refine wp_seq ?_
        refine L_region ?_
        refine L_mv ?_
        refine L_u (P_al ze3 rfl h) ?_
        intro v w h
        refine L_u (P_st on3 h) ?_
        intro w h
        refine L_nil ?_
        refine E_n ?_
        refine D_region (by decide +kernel) 13 rfl ?_
        replace h := dr_e h
        refine G_p 0 rfl (by decide +kernel) (Y_mv h) ?_
        intro v h
        refine G_p 1 rfl (by decide +kernel) (Y_mv h) ?_
        intro v h
        refine G_p 2 rfl (by decide +kernel) (Y_nc h) ?_
        intro v h
        refine G_p 3 rfl (by decide +kernel) (Y_fa fo110_1 h) ?_
        intro v h
        refine G_r _ 4 rfl (by decide +kernel) (R_ld sc39 h) ?_
        intro v h
        refine G_p 5 rfl (by decide +kernel) (Y_mv h) ?_
        intro v h
        refine G_p 6 rfl (by decide +kernel) (Y_nmf h) ?_
        intro v h
        refine G_e 7 rfl (by decide +kernel) (N_cl Tryd.func68 rfl nn68 (fun w Q h => s68 _ _ w Q h) h ?_)
        intro v w h
        refine ⟨keepF_cons (kp_1 h) keepF_nil, ?_⟩
        replace h := (kp_2 h)
        refine G_e 8 rfl (by decide +kernel) (N_bsl h ?_)
        intro v w h
        refine ⟨keepF_cons (kp_1 h) keepF_nil, ?_⟩
        replace h := (kp_2 h)
        refine G_e 9 rfl (by decide +kernel) (N_bi rfl h ?_)
        intro v w h
        refine ⟨keepF_dep [4] (by decide +kernel) rfl keepF_nil, ?_⟩
        refine G_p 10 rfl (by decide +kernel) (Y_nc h) ?_
        intro v h
        refine G_p 11 rfl (by decide +kernel) (Y_fa fo110_1 h) ?_
        intro v h
        refine G_e 12 rfl (by decide +kernel) (P_st on39 h ?_)
        intro w h
        refine ⟨keepF_dep [4] (by decide +kernel) rfl keepF_nil, ?_⟩
        refine G_done (by decide +kernel) ?_
        refine B_n ?_
        refine E_n ?_
        refine L_region ?_
        refine L_u (P_ad h) ?_
        intro v w h
        refine L_mv ?_
        refine L_nil ?_
        refine E_n ?_
        exact L2 _ _ h
      · refine C_exit ?_
        refine E_x ?_
        refine E_x ?_
        refine B_x ?_
        exact J1 _ _ h
    · unfold f38_j1 at h
      refine E_n ?_
      refine wp_seq ?_
      refine wp_seq ?_
      refine L_region ?_
      refine L_mv ?_
      refine L_u (N_cl Tryd.func70 rfl nn70 (fun w Q h => s70 _ _ w Q h) h) ?_
      intro v w h
      refine L_u (N_cl Tryd.func19 rfl nn19 (fun w Q h => s19 _ w Q h) h) ?_
      intro v w h
      refine L_nil ?_
      refine E_n ?_
      refine C_join (fun (k : Value → M) (ρ : Nat → Value) => k (ρ 6)) h (fun j3 J3 h => ?_) (fun ρ w h => ?_)
      · refine C_cnd h (fun h => ?_) (fun h => ?_)
        · refine wp_seq ?_
          refine L_region ?_
          refine L_mv ?_
          refine L_u (N_cl Tryd.func71 rfl nn71 (fun w Q h => s71 _ w Q h) h) ?_
          intro v w h
          refine L_as ?_
          refine L_nil ?_
          refine E_n ?_
          refine wp_seq ?_
          refine L_region ?_
          refine L_mv ?_
          refine L_u (P_nei h) ?_
          intro v w h
          refine L_nil ?_
          refine E_n ?_
          refine C_cnd h (fun h => ?_) (fun h => ?_)
          · refine wp_seq ?_
            refine L_region ?_
            refine L_mv ?_
            refine L_as ?_
            refine L_as ?_
            refine L_nil ?_
            refine E_n ?_
            refine C_ret ?_
            show bodyPost Tryd.prog Tryd.f38 (Rt Q) .ret _ _
            exact post_tmps (ts := [4, 5]) (.inr rfl) rfl h
          · refine C_skip ?_
            exact J3 _ _ h
        · refine C_skip ?_
          exact J3 _ _ h
      · unfold f38_j3 at h
        refine E_n ?_
        refine wp_seq ?_
        refine L_region ?_
        refine L_mv ?_
        refine L_as ?_
        refine L_as ?_
        refine L_nil ?_
        refine E_n ?_
        refine C_ret ?_
        show bodyPost Tryd.prog Tryd.f38 (Rt Q) .ret _ _
        exact post_tmps (ts := [4, 5]) (.inr rfl) rfl h

/- factotum/factotumlaw07.opened -/
def f31 (t0 : Value) : M :=
  cl (f22 t0) fun t7 =>
  cl (f37 t7) fun t8 =>
  cl (f38 t8 t0) fun t10 =>
  ex 0 t10 fun t11 =>
  ex 1 t10 fun t12 =>
  nei .i64 t12 (.int .i64 0) fun t14 =>
  cnd t14 (
    rt (.pointer none)
    ) (
    rt t11
    )
theorem s31 (t0 : Value) (w : World) (Q : Value → World → Prop) (h : f31 t0 w Q) : Calls Tryd.prog 31 #[t0] w (Rt Q) := by
  refine calls_of (l := [t0]) Tryd.func31 rfl Tryd.ntmps31 (Nat.le_of_ble_eq_true rfl) ?_
  unfold f31 at h
  refine wp_seq ?_
  refine L_region ?_
  refine L_as ?_
  refine L_nil ?_
  refine E_n ?_
  refine wp_seq ?_
  refine L_region ?_
  refine L_mv ?_
  refine L_u (N_cl Tryd.func22 rfl nn22 (fun w Q h => s22 _ w Q h) h) ?_
  intro v w h
  refine L_u (N_cl Tryd.func37 rfl nn37 (fun w Q h => s37 _ w Q h) h) ?_
  intro v w h
  refine L_mv ?_
  refine L_u (N_cl Tryd.func38 rfl nn38 (fun w Q h => s38 _ _ w Q h) h) ?_
  intro v w h
  refine L_mv ?_
  refine L_u (P_ex h) ?_
  intro v w h
  refine L_u (P_ex h) ?_
  intro v w h
  refine L_as ?_
  refine L_as ?_
  refine L_nil ?_
  refine E_n ?_
  refine wp_seq ?_
  refine wp_seq ?_
  refine L_region ?_
  refine L_mv ?_
  refine L_u (P_nei h) ?_
  intro v w h
  refine L_nil ?_
  refine E_n ?_
  refine C_cnd h (fun h => ?_) (fun h => ?_)
  · refine wp_seq ?_
    refine L_region ?_
    refine L_as ?_
    refine L_nil ?_
    refine E_n ?_
    refine C_ret ?_
    show bodyPost Tryd.prog Tryd.f31 (Rt Q) .ret _ _
    exact post_tmps (ts := [2]) (.inr rfl) rfl h
  · refine C_skip ?_
    refine E_n ?_
    refine wp_seq ?_
    refine L_region ?_
    refine L_mv ?_
    refine L_as ?_
    refine L_nil ?_
    refine E_n ?_
    refine C_ret ?_
    show bodyPost Tryd.prog Tryd.f31 (Rt Q) .ret _ _
    exact post_tmps (ts := [2]) (.inr rfl) rfl h

/- (*factotum/pager.Pager).Read -/
def f44 (t0 t1 : Value) : M :=
  smr Tryd.prog (do eqGuard .eql 49 (.tmp 7) (.const (.pointer none)) t0 (.pointer none); binOp .eql 49 t0 (.pointer none)) fun t8 =>
  cnd t8 (
    rt (.tuple #[(.string ⟨#[]⟩), (.int .i64 1)])
    ) (
    lt .i64 t1 (.int .i64 0) fun t11 =>
    gd t11 false (idv t1) fun t13 =>
    gd t11 false (idv t0) fun t14 =>
    gd t11 false (nc t14) fun t15 =>
    gd t11 false (fa 1 t15) fun t16 =>
    gd t11 false (ld t16) fun t17 =>
    gd t11 false (lnl t17) fun t18 =>
    gd t11 false (ge .i64 t13 t18) fun t19 =>
    pk t11 (.bool true) t19 fun t20 =>
    cnd t20 (
      rt (.tuple #[(.string ⟨#[]⟩), (.int .i64 7)])
      ) (
      nc t0 fun t22 =>
      fa 1 t22 fun t23 =>
      ld t23 fun t24 =>
      ia 1 t24 t1 fun t26 =>
      ld t26 fun t27 =>
      rt (.tuple #[t27, (.int .i64 0)])
      )
    )
theorem s44 (t0 t1 : Value) (w : World) (Q : Value → World → Prop) (h : f44 t0 t1 w Q) : Calls Tryd.prog 44 #[t0, t1] w (Rt Q) := by
  refine calls_of (l := [t0, t1]) Tryd.func44 rfl Tryd.ntmps44 (Nat.le_of_ble_eq_true rfl) ?_
  unfold f44 at h
  refine wp_seq ?_
  refine L_region ?_
  refine L_as ?_
  refine L_as ?_
  refine L_nil ?_
  refine E_n ?_
  refine wp_seq ?_
  refine C_blk ?_
  refine wp_seq ?_
  refine L_region ?_
  refine L_mv ?_
  refine L_u (P_smr rfl h) ?_
  intro v w h
  refine L_as ?_
  refine L_nil ?_
  refine E_n ?_
  refine C_cnd h (fun h => ?_) (fun h => ?_)
  · refine wp_seq ?_
    refine L_region ?_
    refine L_as ?_
    refine L_as ?_
    refine L_nil ?_
    refine E_n ?_
    refine C_ret ?_
    show bodyPost Tryd.prog Tryd.f44 (Rt Q) .ret _ _
    exact post_tmps (ts := [4, 5]) (.inr rfl) rfl h
  · refine wp_seq ?_
    refine L_region ?_
    refine L_mv ?_
    refine L_u (P_lt h) ?_
    intro v w h
    refine L_mv ?_
    refine L_g (t := 12) h rfl rfl (fun c h => P_mv h c) ?_
    intro v w h
    refine L_g (t := 12) h rfl rfl (fun c h => P_mv h c) ?_
    intro v w h
    refine L_g (t := 12) h rfl rfl (fun c h => P_nc h c) ?_
    intro v w h
    refine L_g (t := 12) h rfl rfl (fun c h => P_fa fo110_1 h c) ?_
    intro v w h
    refine L_g (t := 12) h rfl rfl (fun c h => P_ld sc39 h c) ?_
    intro v w h
    refine L_g (t := 12) h rfl rfl (fun c h => P_lnl is39 h c) ?_
    intro v w h
    refine L_g (t := 12) h rfl rfl (fun c h => P_ge h c) ?_
    intro v w h
    refine L_u (P_pk h) ?_
    intro v w h
    refine L_as ?_
    refine L_nil ?_
    refine E_n ?_
    refine C_cnd h (fun h => ?_) (fun h => ?_)
    · refine wp_seq ?_
      refine L_region ?_
      refine L_as ?_
      refine L_as ?_
      refine L_nil ?_
      refine E_n ?_
      refine C_ret ?_
      show bodyPost Tryd.prog Tryd.f44 (Rt Q) .ret _ _
      exact post_tmps (ts := [4, 5]) (.inr rfl) rfl h
    · refine C_skip ?_
      refine B_n ?_
      refine E_n ?_
      refine wp_seq ?_
      refine L_region ?_
      refine L_mv ?_
      refine L_u (P_nc h) ?_
      intro v w h
      refine L_u (P_fa fo110_1 h) ?_
      intro v w h
      refine L_u (P_ld sc39 h) ?_
      intro v w h
      refine L_mv ?_
      refine L_u (P_ia se39 h) ?_
      intro v w h
      refine L_u (P_ld sc9 h) ?_
      intro v w h
      refine L_as ?_
      refine L_as ?_
      refine L_nil ?_
      refine E_n ?_
      refine C_ret ?_
      show bodyPost Tryd.prog Tryd.f44 (Rt Q) .ret _ _
      exact post_tmps (ts := [4, 5]) (.inr rfl) rfl h

/- (*factotum/cache.ring[factotum/cache.page]).out -/
def f65 (t0 t1 : Value) : M :=
  dr <|
  idv t1 fun t4 =>
  nc t4 fun t5 =>
  fa 0 t5 fun t6 =>
  ld t6 fun t7 =>
  idv t1 fun t8 =>
  nc t8 fun t9 =>
  fa 1 t9 fun t10 =>
  ld t10 fun t11 =>
  idv t1 fun t12 =>
  nc t12 fun t13 =>
  fa 1 t13 fun t14 =>
  ld t14 fun t15 =>
  idv t1 fun t16 =>
  nc t16 fun t17 =>
  fa 0 t17 fun t18 =>
  ld t18 fun t19 =>
  nc t7 fun t20 =>
  fa 1 t20 fun t21 =>
  st t21 t15 <|
  nc t11 fun t22 =>
  fa 0 t22 fun t23 =>
  st t23 t19 <|
  nc t0 fun t25 =>
  fa 4 t25 fun t26 =>
  ld t26 fun t27 =>
  su .i64 t27 (.int .i64 1) fun t28 =>
  nc t0 fun t29 =>
  fa 4 t29 fun t30 =>
  st t30 t28 <|
  rt (.tuple #[])
theorem s65 (t0 t1 : Value) (w : World) (Q : Value → World → Prop) (h : f65 t0 t1 w Q) : Calls Tryd.prog 65 #[t0, t1] w (Rt Q) := by
  refine calls_of (l := [t0, t1]) Tryd.func65 rfl Tryd.ntmps65 (Nat.le_of_ble_eq_true rfl) ?_
  unfold f65 at h
  refine wp_seq ?_
  refine D_region (by decide +kernel) 22 rfl ?_
  replace h := dr_e h
  refine G_p 0 rfl (by decide +kernel) (Y_mv h) ?_
  intro v h
  refine G_p 1 rfl (by decide +kernel) (Y_nc h) ?_
  intro v h
  refine G_p 2 rfl (by decide +kernel) (Y_fa fo95_0 h) ?_
  intro v h
  refine G_r _ 3 rfl (by decide +kernel) (R_ld sc91 h) ?_
  intro v h
  refine G_p 4 rfl (by decide +kernel) (Y_mv h) ?_
  intro v h
  refine G_p 5 rfl (by decide +kernel) (Y_nc h) ?_
  intro v h
  refine G_p 6 rfl (by decide +kernel) (Y_fa fo95_1 h) ?_
  intro v h
  refine G_r _ 7 rfl (by decide +kernel) (R_ld sc91 h) ?_
  intro v h
  refine G_p 8 rfl (by decide +kernel) (Y_mv h) ?_
  intro v h
  refine G_p 9 rfl (by decide +kernel) (Y_nc h) ?_
  intro v h
  refine G_p 10 rfl (by decide +kernel) (Y_fa fo95_1 h) ?_
  intro v h
  refine G_r _ 11 rfl (by decide +kernel) (R_ld sc91 h) ?_
  intro v h
  refine G_p 12 rfl (by decide +kernel) (Y_mv h) ?_
  intro v h
  refine G_p 13 rfl (by decide +kernel) (Y_nc h) ?_
  intro v h
  refine G_p 14 rfl (by decide +kernel) (Y_fa fo95_0 h) ?_
  intro v h
  refine G_r _ 15 rfl (by decide +kernel) (R_ld sc91 h) ?_
  intro v h
  refine G_p 16 rfl (by decide +kernel) (Y_nc h) ?_
  intro v h
  refine G_p 17 rfl (by decide +kernel) (Y_fa fo95_1 h) ?_
  intro v h
  refine G_e 18 rfl (by decide +kernel) (P_st on91 h ?_)
  intro w h
  refine ⟨keepF_dep [15] (by decide +kernel) rfl (keepF_dep [11] (by decide +kernel) rfl (keepF_dep [7] (by decide +kernel) rfl (keepF_dep [3] (by decide +kernel) rfl keepF_nil))), ?_⟩
  refine G_p 19 rfl (by decide +kernel) (Y_nc h) ?_
  intro v h
  refine G_p 20 rfl (by decide +kernel) (Y_fa fo95_0 h) ?_
  intro v h
  refine G_e 21 rfl (by decide +kernel) (P_st on91 h ?_)
  intro w h
  refine ⟨keepF_dep [15] (by decide +kernel) rfl (keepF_dep [11] (by decide +kernel) rfl (keepF_dep [7] (by decide +kernel) rfl (keepF_dep [3] (by decide +kernel) rfl keepF_nil))), ?_⟩
  refine G_done (by decide +kernel) ?_
  refine E_n ?_
  refine L_region ?_
  refine L_mv ?_
  refine L_u (P_nc h) ?_
  intro v w h
  refine L_u (P_fa fo97_1 h) ?_
  intro v w h
  refine L_u (P_ld sc3 h) ?_
  intro v w h
  refine L_u (P_su h) ?_
  intro v w h
  refine L_u (P_nc h) ?_
  intro v w h
  refine L_u (P_fa fo97_1 h) ?_
  intro v w h
  refine L_u (P_st on3 h) ?_
  intro w h
  refine L_nil ?_
  show bodyPost Tryd.prog Tryd.f65 (Rt Q) .normal _ _
  exact post_tmps (ts := []) (.inl rfl) rfl h

/- (*factotum/cache.ring[factotum/cache.page]).first -/
def f93 (t0 t1 : Value) : M :=
  dr <|
  idv t1 fun t4 =>
  idv t1 fun t5 =>
  idv t0 fun t6 =>
  nc t6 fun t7 =>
  fa 0 t7 fun t8 =>
  idv t0 fun t9 =>
  nc t9 fun t10 =>
  fa 0 t10 fun t11 =>
  fa 1 t11 fun t12 =>
  ld t12 fun t13 =>
  nc t4 fun t14 =>
  fa 0 t14 fun t15 =>
  st t15 t8 <|
  nc t5 fun t16 =>
  fa 1 t16 fun t17 =>
  st t17 t13 <|
  dr <|
  idv t1 fun t18 =>
  nc t18 fun t19 =>
  fa 0 t19 fun t20 =>
  ld t20 fun t21 =>
  idv t1 fun t22 =>
  nc t22 fun t23 =>
  fa 1 t23 fun t24 =>
  ld t24 fun t25 =>
  idv t1 fun t26 =>
  idv t1 fun t27 =>
  nc t21 fun t28 =>
  fa 1 t28 fun t29 =>
  st t29 t26 <|
  nc t25 fun t30 =>
  fa 0 t30 fun t31 =>
  st t31 t27 <|
  nc t0 fun t33 =>
  fa 4 t33 fun t34 =>
  ld t34 fun t35 =>
  ad .i64 t35 (.int .i64 1) fun t36 =>
  nc t0 fun t37 =>
  fa 4 t37 fun t38 =>
  st t38 t36 <|
  rt (.tuple #[])
theorem s93 (t0 t1 : Value) (w : World) (Q : Value → World → Prop) (h : f93 t0 t1 w Q) : Calls Tryd.prog 93 #[t0, t1] w (Rt Q) := by
  refine calls_of (l := [t0, t1]) Tryd.func93 rfl Tryd.ntmps93 (Nat.le_of_ble_eq_true rfl) ?_
  unfold f93 at h
  refine wp_seq ?_
  refine D_region (by decide +kernel) 16 rfl ?_
  replace h := dr_e h
  refine G_p 0 rfl (by decide +kernel) (Y_mv h) ?_
  intro v h
  refine G_p 1 rfl (by decide +kernel) (Y_mv h) ?_
  intro v h
  refine G_p 2 rfl (by decide +kernel) (Y_mv h) ?_
  intro v h
  refine G_p 3 rfl (by decide +kernel) (Y_nc h) ?_
  intro v h
  refine G_p 4 rfl (by decide +kernel) (Y_fa fo97_0 h) ?_
  intro v h
  refine G_p 5 rfl (by decide +kernel) (Y_mv h) ?_
  intro v h
  refine G_p 6 rfl (by decide +kernel) (Y_nc h) ?_
  intro v h
  refine G_p 7 rfl (by decide +kernel) (Y_fa fo97_0 h) ?_
  intro v h
  refine G_p 8 rfl (by decide +kernel) (Y_fa fo95_1 h) ?_
  intro v h
  refine G_r _ 9 rfl (by decide +kernel) (R_ld sc91 h) ?_
  intro v h
  refine G_p 10 rfl (by decide +kernel) (Y_nc h) ?_
  intro v h
  refine G_p 11 rfl (by decide +kernel) (Y_fa fo95_0 h) ?_
  intro v h
  refine G_e 12 rfl (by decide +kernel) (P_st on91 h ?_)
  intro w h
  refine ⟨keepF_dep [9] (by decide +kernel) rfl keepF_nil, ?_⟩
  refine G_p 13 rfl (by decide +kernel) (Y_nc h) ?_
  intro v h
  refine G_p 14 rfl (by decide +kernel) (Y_fa fo95_1 h) ?_
  intro v h
  refine G_e 15 rfl (by decide +kernel) (P_st on91 h ?_)
  intro w h
  refine ⟨keepF_dep [9] (by decide +kernel) rfl keepF_nil, ?_⟩
  refine G_done (by decide +kernel) ?_
  refine E_n ?_
  refine wp_seq ?_
  refine D_region (by decide +kernel) 16 rfl ?_
  replace h := dr_e h
  refine G_p 0 rfl (by decide +kernel) (Y_mv h) ?_
  intro v h
  refine G_p 1 rfl (by decide +kernel) (Y_nc h) ?_
  intro v h
  refine G_p 2 rfl (by decide +kernel) (Y_fa fo95_0 h) ?_
  intro v h
  refine G_r _ 3 rfl (by decide +kernel) (R_ld sc91 h) ?_
  intro v h
  refine G_p 4 rfl (by decide +kernel) (Y_mv h) ?_
  intro v h
  refine G_p 5 rfl (by decide +kernel) (Y_nc h) ?_
  intro v h
  refine G_p 6 rfl (by decide +kernel) (Y_fa fo95_1 h) ?_
  intro v h
  refine G_r _ 7 rfl (by decide +kernel) (R_ld sc91 h) ?_
  intro v h
  refine G_p 8 rfl (by decide +kernel) (Y_mv h) ?_
  intro v h
  refine G_p 9 rfl (by decide +kernel) (Y_mv h) ?_
  intro v h
  refine G_p 10 rfl (by decide +kernel) (Y_nc h) ?_
  intro v h
  refine G_p 11 rfl (by decide +kernel) (Y_fa fo95_1 h) ?_
  intro v h
  refine G_e 12 rfl (by decide +kernel) (P_st on91 h ?_)
  intro w h
  refine ⟨keepF_dep [7] (by decide +kernel) rfl (keepF_dep [3] (by decide +kernel) rfl keepF_nil), ?_⟩
  refine G_p 13 rfl (by decide +kernel) (Y_nc h) ?_
  intro v h
  refine G_p 14 rfl (by decide +kernel) (Y_fa fo95_0 h) ?_
  intro v h
  refine G_e 15 rfl (by decide +kernel) (P_st on91 h ?_)
  intro w h
  refine ⟨keepF_dep [7] (by decide +kernel) rfl (keepF_dep [3] (by decide +kernel) rfl keepF_nil), ?_⟩
  refine G_done (by decide +kernel) ?_
  refine E_n ?_
  refine L_region ?_
  refine L_mv ?_
  refine L_u (P_nc h) ?_
  intro v w h
  refine L_u (P_fa fo97_1 h) ?_
  intro v w h
  refine L_u (P_ld sc3 h) ?_
  intro v w h
  refine L_u (P_ad h) ?_
  intro v w h
  refine L_u (P_nc h) ?_
  intro v w h
  refine L_u (P_fa fo97_1 h) ?_
  intro v w h
  refine L_u (P_st on3 h) ?_
  intro w h
  refine L_nil ?_
  show bodyPost Tryd.prog Tryd.f93 (Rt Q) .normal _ _
  exact post_tmps (ts := []) (.inl rfl) rfl h

/- (*factotum/cache.Cache).use -/
def f66 (t0 t1 : Value) : M :=
  nc t0 fun t6 =>
  fa 2 t6 fun t7 =>
  cl (f93 t7 t1) fun t9 =>
  dr <|
  idv t0 fun t10 =>
  nc t10 fun t11 =>
  fa 7 t11 fun t12 =>
  ld t12 fun t13 =>
  idv t1 fun t14 =>
  nc t14 fun t15 =>
  fa 2 t15 fun t16 =>
  fa 0 t16 fun t17 =>
  ld t17 fun t18 =>
  idv t1 fun t19 =>
  smu Tryd.prog (Instr.mapUpdate 90 t13 t18 t19) <|
  dr <|
  idv t0 fun t20 =>
  nc t20 fun t21 =>
  fa 2 t21 fun t22 =>
  fa 4 t22 fun t23 =>
  ld t23 fun t24 =>
  idv t0 fun t25 =>
  nc t25 fun t26 =>
  fa 1 t26 fun t27 =>
  ld t27 fun t28 =>
  gt .i64 t24 t28 fun t29 =>
  cnd t29 (
    nc t0 fun t31 =>
    fa 2 t31 fun t32 =>
    fa 0 t32 fun t33 =>
    fa 0 t33 fun t34 =>
    ld t34 fun t35 =>
    nc t0 fun t37 =>
    fa 2 t37 fun t38 =>
    cl (f65 t38 t35) fun t40 =>
    dr <|
    idv t0 fun t41 =>
    nc t41 fun t42 =>
    fa 7 t42 fun t43 =>
    ld t43 fun t44 =>
    idv t35 fun t45 =>
    nc t45 fun t46 =>
    fa 2 t46 fun t47 =>
    fa 0 t47 fun t48 =>
    ld t48 fun t49 =>
    sm Tryd.prog (Builtin.delete_ #[90, 3] 0 #[t44, t49]) fun _ =>
    rt (.tuple #[])
    ) (
    rt (.tuple #[])
    )
theorem s66 (t0 t1 : Value) (w : World) (Q : Value → World → Prop) (h : f66 t0 t1 w Q) : Calls Tryd.prog 66 #[t0, t1] w (Rt Q) := by
  refine calls_of (l := [t0, t1]) Tryd.func66 rfl Tryd.ntmps66 (Nat.le_of_ble_eq_true rfl) ?_
  unfold f66 at h
  refine wp_seq ?_
  refine L_region ?_
  refine L_mv ?_
  refine L_u (P_nc h) ?_
  intro v w h
  refine L_u (P_fa fo99_2 h) ?_
  intro v w h
  refine L_mv ?_
  refine L_u (N_cl Tryd.func93 rfl nn93 (fun w Q h => s93 _ _ w Q h) h) ?_
  intro v w h
  refine L_nil ?_
  refine E_n ?_
  refine wp_seq ?_
  refine D_region (by decide +kernel) 11 rfl ?_
  replace h := dr_e h
  refine G_p 0 rfl (by decide +kernel) (Y_mv h) ?_
  intro v h
  refine G_p 1 rfl (by decide +kernel) (Y_nc h) ?_
  intro v h
  refine G_p 2 rfl (by decide +kernel) (Y_fa fo99_3 h) ?_
  intro v h
  refine G_r _ 3 rfl (by decide +kernel) (R_ld sc90 h) ?_
  intro v h
  refine G_p 4 rfl (by decide +kernel) (Y_mv h) ?_
  intro v h
  refine G_p 5 rfl (by decide +kernel) (Y_nc h) ?_
  intro v h
  refine G_p 6 rfl (by decide +kernel) (Y_fa fo95_2 h) ?_
  intro v h
  refine G_p 7 rfl (by decide +kernel) (Y_fa fo93_0 h) ?_
  intro v h
  refine G_r _ 8 rfl (by decide +kernel) (R_ld sc3 h) ?_
  intro v h
  refine G_p 9 rfl (by decide +kernel) (Y_mv h) ?_
  intro v h
  refine G_e 10 rfl (by decide +kernel) (P_smu rfl h ?_)
  intro w h
  refine ⟨keepF_dep [8] (by decide +kernel) rfl (keepF_dep [3] (by decide +kernel) rfl keepF_nil), ?_⟩
  refine G_done (by decide +kernel) ?_
  refine E_n ?_
  refine wp_seq ?_
  refine D_region (by decide +kernel) 10 rfl ?_
  replace h := dr_e h
  refine G_p 0 rfl (by decide +kernel) (Y_mv h) ?_
  intro v h
  refine G_p 1 rfl (by decide +kernel) (Y_nc h) ?_
  intro v h
  refine G_p 2 rfl (by decide +kernel) (Y_fa fo99_2 h) ?_
  intro v h
  refine G_p 3 rfl (by decide +kernel) (Y_fa fo97_1 h) ?_
  intro v h
  refine G_r _ 4 rfl (by decide +kernel) (R_ld sc3 h) ?_
  intro v h
  refine G_p 5 rfl (by decide +kernel) (Y_mv h) ?_
  intro v h
  refine G_p 6 rfl (by decide +kernel) (Y_nc h) ?_
  intro v h
  refine G_p 7 rfl (by decide +kernel) (Y_fa fo99_1 h) ?_
  intro v h
  refine G_r _ 8 rfl (by decide +kernel) (R_ld sc3 h) ?_
  intro v h
  refine G_p 9 rfl (by decide +kernel) (Y_gt h) ?_
  intro v h
  refine G_done (by decide +kernel) ?_
  refine E_n ?_
  refine C_cnd h (fun h => ?_) (fun h => ?_)
  · refine wp_seq ?_
    refine L_region ?_
    refine L_mv ?_
    refine L_u (P_nc h) ?_
    intro v w h
    refine L_u (P_fa fo99_2 h) ?_
    intro v w h
    refine L_u (P_fa fo97_0 h) ?_
    intro v w h
    refine L_u (P_fa fo95_0 h) ?_
    intro v w h
    refine L_u (P_ld sc91 h) ?_
    intro v w h
    refine L_as ?_
    refine L_nil ?_
    refine E_n ?_
    refine wp_seq ?_
    refine L_region ?_
    refine L_mv ?_
    refine L_u (P_nc h) ?_
    intro v w h
    refine L_u (P_fa fo99_2 h) ?_
    intro v w h
    refine L_mv ?_
    refine L_u (N_cl Tryd.func65 rfl nn65 (fun w Q h => s65 _ _ w Q h) h) ?_
    intro v w h
    refine L_nil ?_
    refine E_n ?_
    refine D_region (by decide +kernel) 10 rfl ?_
    replace h := dr_e h
    refine G_p 0 rfl (by decide +kernel) (Y_mv h) ?_
    intro v h
    refine G_p 1 rfl (by decide +kernel) (Y_nc h) ?_
    intro v h
    refine G_p 2 rfl (by decide +kernel) (Y_fa fo99_3 h) ?_
    intro v h
    refine G_r _ 3 rfl (by decide +kernel) (R_ld sc90 h) ?_
    intro v h
    refine G_p 4 rfl (by decide +kernel) (Y_mv h) ?_
    intro v h
    refine G_p 5 rfl (by decide +kernel) (Y_nc h) ?_
    intro v h
    refine G_p 6 rfl (by decide +kernel) (Y_fa fo95_2 h) ?_
    intro v h
    refine G_p 7 rfl (by decide +kernel) (Y_fa fo93_0 h) ?_
    intro v h
    refine G_r _ 8 rfl (by decide +kernel) (R_ld sc3 h) ?_
    intro v h
    refine G_e 9 rfl (by decide +kernel) (N_bin rfl h ?_)
    intro w h
    refine ⟨keepF_dep [8] (by decide +kernel) rfl (keepF_dep [3] (by decide +kernel) rfl keepF_nil), ?_⟩
    refine G_done (by decide +kernel) ?_
    show bodyPost Tryd.prog Tryd.f66 (Rt Q) .normal _ _
    exact post_tmps (ts := []) (.inl rfl) rfl h
  · refine C_skip ?_
    show bodyPost Tryd.prog Tryd.f66 (Rt Q) .normal _ _
    exact post_tmps (ts := []) (.inl rfl) rfl h

/- (*factotum/cache.Cache).Read -/
def f32 (t0 t1 : Value) : M :=
  smr Tryd.prog (do eqGuard .eql 47 (.tmp 10) (.const (.pointer none)) t0 (.pointer none); binOp .eql 47 t0 (.pointer none)) fun t11 =>
  cnd t11 (
    rt (.tuple #[(.string ⟨#[]⟩), (.int .i64 1)])
    ) (
    nc t0 fun t14 =>
    fa 7 t14 fun t15 =>
    ld t15 fun t16 =>
    smr Tryd.prog (Instr.lookup 90 t16 t1 true) fun t18 =>
    ex 0 t18 fun t19 =>
    ex 1 t18 fun t20 =>
    cnd t20 (
      nc t0 fun t23 =>
      fa 8 t23 fun t24 =>
      ld t24 fun t25 =>
      ad .i64 t25 (.int .i64 1) fun t26 =>
      nc t0 fun t27 =>
      fa 8 t27 fun t28 =>
      st t28 t26 <|
      nc t0 fun t30 =>
      fa 2 t30 fun t31 =>
      cl (f65 t31 t19) fun t33 =>
      cl (f66 t0 t19) fun t36 =>
      nc t19 fun t38 =>
      fa 2 t38 fun t39 =>
      fa 1 t39 fun t40 =>
      ld t40 fun t41 =>
      rt (.tuple #[t41, (.int .i64 0)])
      ) (
      nc t0 fun t44 =>
      fa 0 t44 fun t45 =>
      ld t45 fun t46 =>
      cl (f44 t46 t1) fun t48 =>
      ex 0 t48 fun t49 =>
      ex 1 t48 fun t50 =>
      nei .i64 t50 (.int .i64 0) fun t52 =>
      cnd t52 (
        rt (.tuple #[(.string ⟨#[]⟩), t50])
        ) (
        nc t0 fun t55 =>
        fa 9 t55 fun t56 =>
        ld t56 fun t57 =>
        ad .i64 t57 (.int .i64 1) fun t58 =>
        nc t0 fun t59 =>
        fa 9 t59 fun t60 =>
        st t60 t58 <|
        smr Tryd.prog (Instr.build 93 #[(0, t1), (1, t49)]) fun t64 =>
        smr Tryd.prog (Instr.build 95 #[(2, t64)]) fun t65 =>
        bx 95 t65 fun t66 =>
        cl (f66 t0 t66) fun t67 =>
        rt (.tuple #[t49, (.int .i64 0)])
        )
      )
    )
theorem s32 (t0 t1 : Value) (w : World) (Q : Value → World → Prop) (h : f32 t0 t1 w Q) : Calls Tryd.prog 32 #[t0, t1] w (Rt Q) := by
  refine calls_of (l := [t0, t1]) Tryd.func32 rfl Tryd.ntmps32 (Nat.le_of_ble_eq_true rfl) ?_
  unfold f32 at h
  refine wp_seq ?_
  refine L_region ?_
  refine L_as ?_
  refine L_as ?_
  refine L_nil ?_
  refine E_n ?_
  refine wp_seq ?_
  refine wp_seq ?_
  refine L_region ?_
  refine L_mv ?_
  refine L_u (P_smr rfl h) ?_
  intro v w h
  refine L_nil ?_
  refine E_n ?_
  refine C_cnd h (fun h => ?_) (fun h => ?_)
  · refine wp_seq ?_
    refine L_region ?_
    refine L_as ?_
    refine L_as ?_
    refine L_nil ?_
    refine E_n ?_
    refine C_ret ?_
    show bodyPost Tryd.prog Tryd.f32 (Rt Q) .ret _ _
    exact post_tmps (ts := [4, 5]) (.inr rfl) rfl h
  · refine C_skip ?_
    refine E_n ?_
    refine wp_seq ?_
    refine wp_seq ?_
    refine L_region ?_
    refine L_mv ?_
    refine L_u (P_nc h) ?_
    intro v w h
    refine L_u (P_fa fo99_3 h) ?_
    intro v w h
    refine L_u (P_ld sc90 h) ?_
    intro v w h
    refine L_mv ?_
    refine L_u (P_smr rfl h) ?_
    intro v w h
    refine L_mv ?_
    refine L_u (P_ex h) ?_
    intro v w h
    refine L_u (P_ex h) ?_
    intro v w h
    refine L_as ?_
    refine L_as ?_
    refine L_nil ?_
    refine E_n ?_
    refine wp_seq ?_
    refine L_region ?_
    refine L_mv ?_
    refine L_nil ?_
    refine E_n ?_
    refine C_cnd h (fun h => ?_) (fun h => ?_)
    · refine wp_seq ?_
      refine L_region ?_
      refine L_mv ?_
      refine L_u (P_nc h) ?_
      intro v w h
      refine L_u (P_fa fo99_4 h) ?_
      intro v w h
      refine L_u (P_ld sc3 h) ?_
      intro v w h
      refine L_u (P_ad h) ?_
      intro v w h
      refine L_u (P_nc h) ?_
      intro v w h
      refine L_u (P_fa fo99_4 h) ?_
      intro v w h
      refine L_u (P_st on3 h) ?_
      intro w h
      refine L_nil ?_
      refine E_n ?_
      refine wp_seq ?_
      refine L_region ?_
      refine L_mv ?_
      refine L_u (P_nc h) ?_
      intro v w h
      refine L_u (P_fa fo99_2 h) ?_
      intro v w h
      refine L_mv ?_
      refine L_u (N_cl Tryd.func65 rfl nn65 (fun w Q h => s65 _ _ w Q h) h) ?_
      intro v w h
      refine L_nil ?_
      refine E_n ?_
      refine wp_seq ?_
      refine L_region ?_
      refine L_mv ?_
      refine L_mv ?_
      refine L_u (N_cl Tryd.func66 rfl nn66 (fun w Q h => s66 _ _ w Q h) h) ?_
      intro v w h
      refine L_nil ?_
      refine E_n ?_
      refine wp_seq ?_
      refine L_region ?_
      refine L_mv ?_
      refine L_u (P_nc h) ?_
      intro v w h
      refine L_u (P_fa fo95_2 h) ?_
      intro v w h
      refine L_u (P_fa fo93_1 h) ?_
      intro v w h
      refine L_u (P_ld sc9 h) ?_
      intro v w h
      refine L_as ?_
      refine L_as ?_
      refine L_nil ?_
      refine E_n ?_
      refine C_ret ?_
      show bodyPost Tryd.prog Tryd.f32 (Rt Q) .ret _ _
      exact post_tmps (ts := [4, 5]) (.inr rfl) rfl h
    · refine C_skip ?_
      refine E_n ?_
      refine wp_seq ?_
      refine L_region ?_
      refine L_mv ?_
      refine L_u (P_nc h) ?_
      intro v w h
      refine L_u (P_fa fo99_0 h) ?_
      intro v w h
      refine L_u (P_ld sc49 h) ?_
      intro v w h
      refine L_mv ?_
      refine L_u (N_cl Tryd.func44 rfl nn44 (fun w Q h => s44 _ _ w Q h) h) ?_
      intro v w h
      refine L_mv ?_
      refine L_u (P_ex h) ?_
      intro v w h
      refine L_u (P_ex h) ?_
      intro v w h
      refine L_as ?_
      refine L_as ?_
      refine L_nil ?_
      refine E_n ?_
      refine wp_seq ?_
      refine wp_seq ?_
      refine L_region ?_
      refine L_mv ?_
      refine L_u (P_nei h) ?_
      intro v w h
      refine L_nil ?_
      refine E_n ?_
      refine C_cnd h (fun h => ?_) (fun h => ?_)
      · refine wp_seq ?_
        refine L_region ?_
        refine L_mv ?_
        refine L_as ?_
        refine L_as ?_
        refine L_nil ?_
        refine E_n ?_
        refine C_ret ?_
        show bodyPost Tryd.prog Tryd.f32 (Rt Q) .ret _ _
        exact post_tmps (ts := [4, 5]) (.inr rfl) rfl h
      · refine C_skip ?_
        refine E_n ?_
        refine wp_seq ?_
        refine L_region ?_
        refine L_mv ?_
        refine L_u (P_nc h) ?_
        intro v w h
        refine L_u (P_fa fo99_5 h) ?_
        intro v w h
        refine L_u (P_ld sc3 h) ?_
        intro v w h
        refine L_u (P_ad h) ?_
        intro v w h
        refine L_u (P_nc h) ?_
        intro v w h
        refine L_u (P_fa fo99_5 h) ?_
        intro v w h
        refine L_u (P_st on3 h) ?_
        intro w h
        refine L_nil ?_
        refine E_n ?_
        refine wp_seq ?_
        refine L_region ?_
        refine L_mv ?_
        refine L_mv ?_
        refine L_mv ?_
        refine L_u (N_bld h) ?_
        intro v w h
        refine L_u (N_bld h) ?_
        intro v w h
        refine L_u (P_bx h) ?_
        intro v w h
        refine L_u (N_cl Tryd.func66 rfl nn66 (fun w Q h => s66 _ _ w Q h) h) ?_
        intro v w h
        refine L_nil ?_
        refine E_n ?_
        refine wp_seq ?_
        refine L_region ?_
        refine L_mv ?_
        refine L_as ?_
        refine L_as ?_
        refine L_nil ?_
        refine E_n ?_
        refine C_ret ?_
        show bodyPost Tryd.prog Tryd.f32 (Rt Q) .ret _ _
        exact post_tmps (ts := [4, 5]) (.inr rfl) rfl h

/- (*factotum/cache.Cache).Kept -/
def f33_b2 (j1 : Value → M) (self2 : Value → Value → Value → M) (t0_1 t3 t4 : Value) : M :=
  nc t0_1 fun t15 =>
  fa 2 t15 fun t16 =>
  fa 0 t16 fun t17 =>
  smr Tryd.prog (do eqGuard .neq 91 (.tmp 13) (.tmp 17) t4 t17; binOp .neq 91 t4 t17) fun t18 =>
  cnd t18 (
    nc t4 fun t25 =>
    fa 2 t25 fun t26 =>
    fa 0 t26 fun t27 =>
    ld t27 fun t28 =>
    sm Tryd.prog (Instr.buildSlice 22 1 #[(0, t28)]) fun t29 =>
    sm Tryd.prog (Builtin.append_ #[22, 22] 22 #[t3, t29]) fun t30 =>
    nc t4 fun t20 =>
    fa 1 t20 fun t21 =>
    ld t21 fun t22 =>
    self2 t0_1 t30 t22
    ) (
    j1 t3
    )
def f33_j1 (t3_1 : Value) : M :=
  rt t3_1
def f33 (t0 : Value) : M :=
  smr Tryd.prog (do eqGuard .eql 47 (.tmp 5) (.const (.pointer none)) t0 (.pointer none); binOp .eql 47 t0 (.pointer none)) fun t6 =>
  cnd t6 (
    rt (.slice none 0 0)
    ) (
    nc t0 fun t8 =>
    fa 2 t8 fun t9 =>
    fa 0 t9 fun t10 =>
    fa 1 t10 fun t11 =>
    ld t11 fun t12 =>
    jn (fun (j1 : Value → M) =>
      lo (fun _ _ _ => bot) (f33_b2 j1) (fun l => l t0 (.slice none 0 0) t12)
      ) (f33_j1)
    )
theorem s33 (t0 : Value) (w : World) (Q : Value → World → Prop) (h : f33 t0 w Q) : Calls Tryd.prog 33 #[t0] w (Rt Q) := by
  refine calls_of (l := [t0]) Tryd.func33 rfl Tryd.ntmps33 (Nat.le_of_ble_eq_true rfl) ?_
  unfold f33 at h
  refine wp_seq ?_
  refine L_region ?_
  refine L_as ?_
  refine L_nil ?_
  refine E_n ?_
  refine wp_seq ?_
  refine wp_seq ?_
  refine L_region ?_
  refine L_mv ?_
  refine L_u (P_smr rfl h) ?_
  intro v w h
  refine L_nil ?_
  refine E_n ?_
  refine C_cnd h (fun h => ?_) (fun h => ?_)
  · refine wp_seq ?_
    refine L_region ?_
    refine L_as ?_
    refine L_nil ?_
    refine E_n ?_
    refine C_ret ?_
    show bodyPost Tryd.prog Tryd.f33 (Rt Q) .ret _ _
    exact post_tmps (ts := [2]) (.inr rfl) rfl h
  · refine C_skip ?_
    refine E_n ?_
    refine wp_seq ?_
    refine L_region ?_
    refine L_as ?_
    refine L_nil ?_
    refine E_n ?_
    refine wp_seq ?_
    refine wp_seq ?_
    refine L_region ?_
    refine L_mv ?_
    refine L_u (P_nc h) ?_
    intro v w h
    refine L_u (P_fa fo99_2 h) ?_
    intro v w h
    refine L_u (P_fa fo97_0 h) ?_
    intro v w h
    refine L_u (P_fa fo95_1 h) ?_
    intro v w h
    refine L_u (P_ld sc91 h) ?_
    intro v w h
    refine L_as ?_
    refine L_nil ?_
    refine E_n ?_
    refine C_join (fun (k : Value → M) (ρ : Nat → Value) => k (ρ 3)) h (fun j1 J1 h => ?_) (fun ρ w h => ?_)
    · refine C_blk ?_
      refine C_lo (fun (l : Value → Value → Value → M) (ρ : Nat → Value) => l (ρ 0) (ρ 3) (ρ 4)) h (fun ρ w h => h) (fun nx self2 L2 ρ w h => ?_)
      unfold f33_b2 at h
      refine wp_seq ?_
      refine wp_seq ?_
      refine L_region ?_
      refine L_mv ?_
      refine L_mv ?_
      refine L_u (P_nc h) ?_
      intro v w h
      refine L_u (P_fa fo99_2 h) ?_
      intro v w h
      refine L_u (P_fa fo97_0 h) ?_
      intro v w h
      refine L_u (P_smr rfl h) ?_
      intro v w h
      refine L_nil ?_
      refine E_n ?_
      refine C_cnd h (fun h => ?_) (fun h => ?_)
      · refine C_skip ?_
        refine E_n ?_
        refine wp_seq ?_
        refine C_blk ?_
        refine L_region ?_
        refine L_mv ?_
        refine L_mv ?_
        refine L_u (P_nc h) ?_
        intro v w h
        refine L_u (P_fa fo95_2 h) ?_
        intro v w h
        refine L_u (P_fa fo93_0 h) ?_
        intro v w h
        refine L_u (P_ld sc3 h) ?_
        intro v w h
        refine L_u (N_bsl h) ?_
        intro v w h
        refine L_u (N_bi rfl h) ?_
        intro v w h
        refine L_as ?_
        refine L_nil ?_
        refine B_n ?_
        refine E_n ?_
        refine L_region ?_
        refine L_mv ?_
        refine L_u (P_nc h) ?_
        intro v w h
        refine L_u (P_fa fo95_1 h) ?_
        intro v w h
        refine L_u (P_ld sc91 h) ?_
        intro v w h
        refine L_as ?_
        refine L_nil ?_
        refine E_n ?_
        exact L2 _ _ h
      · refine C_exit ?_
        refine E_x ?_
        refine E_x ?_
        refine B_x ?_
        exact J1 _ _ h
    · unfold f33_j1 at h
      refine E_n ?_
      refine wp_seq ?_
      refine L_region ?_
      refine L_mv ?_
      refine L_as ?_
      refine L_nil ?_
      refine E_n ?_
      refine C_ret ?_
      show bodyPost Tryd.prog Tryd.f33 (Rt Q) .ret _ _
      exact post_tmps (ts := [2]) (.inr rfl) rfl h

/- (*factotum/cache.Cache).Hits -/
def f34 (t0 : Value) : M :=
  smr Tryd.prog (do eqGuard .eql 47 (.tmp 3) (.const (.pointer none)) t0 (.pointer none); binOp .eql 47 t0 (.pointer none)) fun t4 =>
  cnd t4 (
    rt (.int .i64 0)
    ) (
    nc t0 fun t6 =>
    fa 8 t6 fun t7 =>
    ld t7 fun t8 =>
    rt t8
    )
theorem s34 (t0 : Value) (w : World) (Q : Value → World → Prop) (h : f34 t0 w Q) : Calls Tryd.prog 34 #[t0] w (Rt Q) := by
  refine calls_of (l := [t0]) Tryd.func34 rfl Tryd.ntmps34 (Nat.le_of_ble_eq_true rfl) ?_
  unfold f34 at h
  refine wp_seq ?_
  refine L_region ?_
  refine L_as ?_
  refine L_nil ?_
  refine E_n ?_
  refine wp_seq ?_
  refine wp_seq ?_
  refine L_region ?_
  refine L_mv ?_
  refine L_u (P_smr rfl h) ?_
  intro v w h
  refine L_nil ?_
  refine E_n ?_
  refine C_cnd h (fun h => ?_) (fun h => ?_)
  · refine wp_seq ?_
    refine L_region ?_
    refine L_as ?_
    refine L_nil ?_
    refine E_n ?_
    refine C_ret ?_
    show bodyPost Tryd.prog Tryd.f34 (Rt Q) .ret _ _
    exact post_tmps (ts := [2]) (.inr rfl) rfl h
  · refine C_skip ?_
    refine E_n ?_
    refine wp_seq ?_
    refine L_region ?_
    refine L_mv ?_
    refine L_u (P_nc h) ?_
    intro v w h
    refine L_u (P_fa fo99_4 h) ?_
    intro v w h
    refine L_u (P_ld sc3 h) ?_
    intro v w h
    refine L_as ?_
    refine L_nil ?_
    refine E_n ?_
    refine C_ret ?_
    show bodyPost Tryd.prog Tryd.f34 (Rt Q) .ret _ _
    exact post_tmps (ts := [2]) (.inr rfl) rfl h

/- (*factotum/cache.Cache).Misses -/
def f35 (t0 : Value) : M :=
  smr Tryd.prog (do eqGuard .eql 47 (.tmp 3) (.const (.pointer none)) t0 (.pointer none); binOp .eql 47 t0 (.pointer none)) fun t4 =>
  cnd t4 (
    rt (.int .i64 0)
    ) (
    nc t0 fun t6 =>
    fa 9 t6 fun t7 =>
    ld t7 fun t8 =>
    rt t8
    )
theorem s35 (t0 : Value) (w : World) (Q : Value → World → Prop) (h : f35 t0 w Q) : Calls Tryd.prog 35 #[t0] w (Rt Q) := by
  refine calls_of (l := [t0]) Tryd.func35 rfl Tryd.ntmps35 (Nat.le_of_ble_eq_true rfl) ?_
  unfold f35 at h
  refine wp_seq ?_
  refine L_region ?_
  refine L_as ?_
  refine L_nil ?_
  refine E_n ?_
  refine wp_seq ?_
  refine wp_seq ?_
  refine L_region ?_
  refine L_mv ?_
  refine L_u (P_smr rfl h) ?_
  intro v w h
  refine L_nil ?_
  refine E_n ?_
  refine C_cnd h (fun h => ?_) (fun h => ?_)
  · refine wp_seq ?_
    refine L_region ?_
    refine L_as ?_
    refine L_nil ?_
    refine E_n ?_
    refine C_ret ?_
    show bodyPost Tryd.prog Tryd.f35 (Rt Q) .ret _ _
    exact post_tmps (ts := [2]) (.inr rfl) rfl h
  · refine C_skip ?_
    refine E_n ?_
    refine wp_seq ?_
    refine L_region ?_
    refine L_mv ?_
    refine L_u (P_nc h) ?_
    intro v w h
    refine L_u (P_fa fo99_5 h) ?_
    intro v w h
    refine L_u (P_ld sc3 h) ?_
    intro v w h
    refine L_as ?_
    refine L_nil ?_
    refine E_n ?_
    refine C_ret ?_
    show bodyPost Tryd.prog Tryd.f35 (Rt Q) .ret _ _
    exact post_tmps (ts := [2]) (.inr rfl) rfl h

/- (*factotum/pager.Pager).Size -/
def f46 (t0 : Value) : M :=
  smr Tryd.prog (do eqGuard .eql 49 (.tmp 3) (.const (.pointer none)) t0 (.pointer none); binOp .eql 49 t0 (.pointer none)) fun t4 =>
  cnd t4 (
    rt (.int .i64 0)
    ) (
    nc t0 fun t6 =>
    fa 1 t6 fun t7 =>
    ld t7 fun t8 =>
    lnl t8 fun t9 =>
    rt t9
    )
theorem s46 (t0 : Value) (w : World) (Q : Value → World → Prop) (h : f46 t0 w Q) : Calls Tryd.prog 46 #[t0] w (Rt Q) := by
  refine calls_of (l := [t0]) Tryd.func46 rfl Tryd.ntmps46 (Nat.le_of_ble_eq_true rfl) ?_
  unfold f46 at h
  refine wp_seq ?_
  refine L_region ?_
  refine L_as ?_
  refine L_nil ?_
  refine E_n ?_
  refine wp_seq ?_
  refine wp_seq ?_
  refine L_region ?_
  refine L_mv ?_
  refine L_u (P_smr rfl h) ?_
  intro v w h
  refine L_nil ?_
  refine E_n ?_
  refine C_cnd h (fun h => ?_) (fun h => ?_)
  · refine wp_seq ?_
    refine L_region ?_
    refine L_as ?_
    refine L_nil ?_
    refine E_n ?_
    refine C_ret ?_
    show bodyPost Tryd.prog Tryd.f46 (Rt Q) .ret _ _
    exact post_tmps (ts := [2]) (.inr rfl) rfl h
  · refine C_skip ?_
    refine E_n ?_
    refine wp_seq ?_
    refine L_region ?_
    refine L_mv ?_
    refine L_u (P_nc h) ?_
    intro v w h
    refine L_u (P_fa fo110_1 h) ?_
    intro v w h
    refine L_u (P_ld sc39 h) ?_
    intro v w h
    refine L_u (P_lnl is39 h) ?_
    intro v w h
    refine L_as ?_
    refine L_nil ?_
    refine E_n ?_
    refine C_ret ?_
    show bodyPost Tryd.prog Tryd.f46 (Rt Q) .ret _ _
    exact post_tmps (ts := [2]) (.inr rfl) rfl h

/- (*factotum/cache.Cache).Pages -/
def f63 (t0 : Value) : M :=
  smr Tryd.prog (do eqGuard .eql 47 (.tmp 3) (.const (.pointer none)) t0 (.pointer none); binOp .eql 47 t0 (.pointer none)) fun t4 =>
  cnd t4 (
    rt (.int .i64 0)
    ) (
    nc t0 fun t6 =>
    fa 0 t6 fun t7 =>
    ld t7 fun t8 =>
    cl (f46 t8) fun t9 =>
    rt t9
    )
theorem s63 (t0 : Value) (w : World) (Q : Value → World → Prop) (h : f63 t0 w Q) : Calls Tryd.prog 63 #[t0] w (Rt Q) := by
  refine calls_of (l := [t0]) Tryd.func63 rfl Tryd.ntmps63 (Nat.le_of_ble_eq_true rfl) ?_
  unfold f63 at h
  refine wp_seq ?_
  refine L_region ?_
  refine L_as ?_
  refine L_nil ?_
  refine E_n ?_
  refine wp_seq ?_
  refine wp_seq ?_
  refine L_region ?_
  refine L_mv ?_
  refine L_u (P_smr rfl h) ?_
  intro v w h
  refine L_nil ?_
  refine E_n ?_
  refine C_cnd h (fun h => ?_) (fun h => ?_)
  · refine wp_seq ?_
    refine L_region ?_
    refine L_as ?_
    refine L_nil ?_
    refine E_n ?_
    refine C_ret ?_
    show bodyPost Tryd.prog Tryd.f63 (Rt Q) .ret _ _
    exact post_tmps (ts := [2]) (.inr rfl) rfl h
  · refine C_skip ?_
    refine E_n ?_
    refine wp_seq ?_
    refine L_region ?_
    refine L_mv ?_
    refine L_u (P_nc h) ?_
    intro v w h
    refine L_u (P_fa fo99_0 h) ?_
    intro v w h
    refine L_u (P_ld sc49 h) ?_
    intro v w h
    refine L_u (N_cl Tryd.func46 rfl nn46 (fun w Q h => s46 _ w Q h) h) ?_
    intro v w h
    refine L_as ?_
    refine L_nil ?_
    refine E_n ?_
    refine C_ret ?_
    show bodyPost Tryd.prog Tryd.f63 (Rt Q) .ret _ _
    exact post_tmps (ts := [2]) (.inr rfl) rfl h

/- factotum/factotumlaw07.lives -/
def f28_b2 (j1 : Value → M) (self2 : Value → Value → Value → M) (t1 t2 t3 : Value) : M :=
  lnl t2 fun t13 =>
  lt .i64 t3 t13 fun t14 =>
  cnd t14 (
    ia 1 t2 t3 fun t21 =>
    ld t21 fun t22 =>
    cl (f32 t1 t22) fun t23 =>
    ex 0 t23 fun t24 =>
    ex 1 t23 fun t25 =>
    nei .i64 t25 (.int .i64 0) fun t27 =>
    gd t27 false (idv t24) fun t29 =>
    gd t27 false (lns t29) fun t30 =>
    gd t27 false (nei .i64 t30 (.int .i64 256)) fun t31 =>
    pk t27 (.bool true) t31 fun t32 =>
    cnd t32 (
      rt (.bool false)
      ) (
      ad .i64 t3 (.int .i64 1) fun t16 =>
      self2 t1 t2 t16
      )
    ) (
    j1 t1
    )
def f28_j1 (t1_1 : Value) : M :=
  cl (f34 t1_1) fun t34 =>
  eqi .i64 t34 (.int .i64 2) fun t35 =>
  gd t35 true (idv t1_1) fun t37 =>
  gd t35 true (cl (f35 t37)) fun t38 =>
  gd t35 true (eqi .i64 t38 (.int .i64 3)) fun t39 =>
  pk t35 t39 (.bool false) fun t40 =>
  gd t40 true (idv t1_1) fun t42 =>
  gd t40 true (cl (f33 t42)) fun t43 =>
  gd t40 true (sm Tryd.prog (Instr.buildSlice 22 2 #[(0, (.int .i64 1)), (1, (.int .i64 3))])) fun t44 =>
  gd t40 true (cl (f17 t43 t44)) fun t45 =>
  pk t40 t45 (.bool false) fun t46 =>
  gd t46 true (idv t1_1) fun t48 =>
  gd t46 true (cl (f63 t48)) fun t49 =>
  gd t46 true (eqi .i64 t49 (.int .i64 4)) fun t50 =>
  pk t46 t50 (.bool false) fun t51 =>
  rt t51
def f28 : M :=
  cl (f31 (.int .i64 4)) fun t6 =>
  cl (f30 t6 (.int .i64 2)) fun t7 =>
  smr Tryd.prog (do eqGuard .eql 47 (.tmp 8) (.const (.pointer none)) t7 (.pointer none); binOp .eql 47 t7 (.pointer none)) fun t9 =>
  cnd t9 (
    rt (.bool false)
    ) (
    sm Tryd.prog (Instr.buildSlice 22 5 #[(0, (.int .i64 1)), (1, (.int .i64 2)), (2, (.int .i64 1)), (3, (.int .i64 3)), (4, (.int .i64 1))]) fun t10 =>
    jn (fun (j1 : Value → M) =>
      lo (fun _ _ _ => bot) (f28_b2 j1) (fun l => l t7 t10 (.int .i64 0))
      ) (f28_j1)
    )
theorem s28 (w : World) (Q : Value → World → Prop) (h : f28 w Q) : Calls Tryd.prog 28 #[] w (Rt Q) := by
  refine calls_of (l := []) Tryd.func28 rfl Tryd.ntmps28 (Nat.le_of_ble_eq_true rfl) ?_
  unfold f28 at h
  refine wp_seq ?_
  refine L_region ?_
  refine L_as ?_
  refine L_nil ?_
  refine E_n ?_
  refine wp_seq ?_
  refine L_region ?_
  refine L_u (N_cl Tryd.func31 rfl nn31 (fun w Q h => s31 _ w Q h) h) ?_
  intro v w h
  refine L_u (N_cl Tryd.func30 rfl nn30 (fun w Q h => s30 _ _ w Q h) h) ?_
  intro v w h
  refine L_as ?_
  refine L_nil ?_
  refine E_n ?_
  refine wp_seq ?_
  refine wp_seq ?_
  refine L_region ?_
  refine L_mv ?_
  refine L_u (P_smr rfl h) ?_
  intro v w h
  refine L_nil ?_
  refine E_n ?_
  refine C_cnd h (fun h => ?_) (fun h => ?_)
  · refine wp_seq ?_
    refine L_region ?_
    refine L_as ?_
    refine L_nil ?_
    refine E_n ?_
    refine C_ret ?_
    show bodyPost Tryd.prog Tryd.f28 (Rt Q) .ret _ _
    exact post_tmps (ts := [0]) (.inr rfl) rfl h
  · refine C_skip ?_
    refine E_n ?_
    refine wp_seq ?_
    refine L_region ?_
    refine L_u (N_bsl h) ?_
    intro v w h
    refine L_as ?_
    refine L_nil ?_
    refine E_n ?_
    refine wp_seq ?_
    refine wp_seq ?_
    refine L_region ?_
    refine L_as ?_
    refine L_nil ?_
    refine E_n ?_
    refine C_join (fun (k : Value → M) (ρ : Nat → Value) => k (ρ 1)) h (fun j1 J1 h => ?_) (fun ρ w h => ?_)
    · refine C_blk ?_
      refine C_lo (fun (l : Value → Value → Value → M) (ρ : Nat → Value) => l (ρ 1) (ρ 2) (ρ 3)) h (fun ρ w h => h) (fun nx self2 L2 ρ w h => ?_)
      unfold f28_b2 at h
      refine wp_seq ?_
      refine wp_seq ?_
      refine L_region ?_
      refine L_mv ?_
      refine L_mv ?_
      refine L_u (P_lnl is22 h) ?_
      intro v w h
      refine L_u (P_lt h) ?_
      intro v w h
      refine L_nil ?_
      refine E_n ?_
      refine C_cnd h (fun h => ?_) (fun h => ?_)
      · refine C_skip ?_
        refine E_n ?_
        refine wp_seq ?_
        refine C_blk ?_
        refine wp_seq ?_
        refine L_region ?_
        refine L_mv ?_
        refine L_mv ?_
        refine L_mv ?_
        refine L_u (P_ia se22 h) ?_
        intro v w h
        refine L_u (P_ld sc3 h) ?_
        intro v w h
        refine L_u (N_cl Tryd.func32 rfl nn32 (fun w Q h => s32 _ _ w Q h) h) ?_
        intro v w h
        refine L_mv ?_
        refine L_u (P_ex h) ?_
        intro v w h
        refine L_u (P_ex h) ?_
        intro v w h
        refine L_as ?_
        refine L_as ?_
        refine L_nil ?_
        refine E_n ?_
        refine wp_seq ?_
        refine L_region ?_
        refine L_mv ?_
        refine L_u (P_nei h) ?_
        intro v w h
        refine L_mv ?_
        refine L_g (t := 28) h rfl rfl (fun c h => P_mv h c) ?_
        intro v w h
        refine L_g (t := 28) h rfl rfl (fun c h => P_lns st9 h c) ?_
        intro v w h
        refine L_g (t := 28) h rfl rfl (fun c h => P_nei h c) ?_
        intro v w h
        refine L_u (P_pk h) ?_
        intro v w h
        refine L_nil ?_
        refine E_n ?_
        refine C_cnd h (fun h => ?_) (fun h => ?_)
        · refine wp_seq ?_
          refine L_region ?_
          refine L_as ?_
          refine L_nil ?_
          refine E_n ?_
          refine C_ret ?_
          show bodyPost Tryd.prog Tryd.f28 (Rt Q) .ret _ _
          exact post_tmps (ts := [0]) (.inr rfl) rfl h
        · refine C_skip ?_
          refine B_n ?_
          refine E_n ?_
          refine L_region ?_
          refine L_mv ?_
          refine L_u (P_ad h) ?_
          intro v w h
          refine L_as ?_
          refine L_nil ?_
          refine E_n ?_
          exact L2 _ _ h
      · refine C_exit ?_
        refine E_x ?_
        refine E_x ?_
        refine B_x ?_
        exact J1 _ _ h
    · unfold f28_j1 at h
      refine E_n ?_
      refine wp_seq ?_
      refine L_region ?_
      refine L_mv ?_
      refine L_u (N_cl Tryd.func34 rfl nn34 (fun w Q h => s34 _ w Q h) h) ?_
      intro v w h
      refine L_u (P_eqi h) ?_
      intro v w h
      refine L_mv ?_
      refine L_g (t := 36) h rfl rfl (fun c h => P_mv h c) ?_
      intro v w h
      refine L_g (t := 36) h rfl rfl (fun c h => N_cl Tryd.func35 rfl nn35 (fun w Q h => s35 _ w Q h) h c) ?_
      intro v w h
      refine L_g (t := 36) h rfl rfl (fun c h => P_eqi h c) ?_
      intro v w h
      refine L_u (P_pk h) ?_
      intro v w h
      refine L_mv ?_
      refine L_g (t := 41) h rfl rfl (fun c h => P_mv h c) ?_
      intro v w h
      refine L_g (t := 41) h rfl rfl (fun c h => N_cl Tryd.func33 rfl nn33 (fun w Q h => s33 _ w Q h) h c) ?_
      intro v w h
      refine L_g (t := 41) h rfl rfl (fun c h => N_bsl h c) ?_
      intro v w h
      refine L_g (t := 41) h rfl rfl (fun c h => N_cl Tryd.func17 rfl nn17 (fun w Q h => s17 _ _ w Q h) h c) ?_
      intro v w h
      refine L_u (P_pk h) ?_
      intro v w h
      refine L_mv ?_
      refine L_g (t := 47) h rfl rfl (fun c h => P_mv h c) ?_
      intro v w h
      refine L_g (t := 47) h rfl rfl (fun c h => N_cl Tryd.func63 rfl nn63 (fun w Q h => s63 _ w Q h) h c) ?_
      intro v w h
      refine L_g (t := 47) h rfl rfl (fun c h => P_eqi h c) ?_
      intro v w h
      refine L_u (P_pk h) ?_
      intro v w h
      refine L_as ?_
      refine L_nil ?_
      refine E_n ?_
      refine C_ret ?_
      show bodyPost Tryd.prog Tryd.f28 (Rt Q) .ret _ _
      exact post_tmps (ts := [0]) (.inr rfl) rfl h

/- factotum/factotumlaw07.early -/
def f29 (t0 : Value) : M :=
  lnl t0 fun t5 =>
  mnm t5 (.int .i64 300) fun t6 =>
  sll 3 t0 none (some t6) fun t7 =>
  rt t7
theorem s29 (t0 : Value) (w : World) (Q : Value → World → Prop) (h : f29 t0 w Q) : Calls Tryd.prog 29 #[t0] w (Rt Q) := by
  refine calls_of (l := [t0]) Tryd.func29 rfl Tryd.ntmps29 (Nat.le_of_ble_eq_true rfl) ?_
  unfold f29 at h
  refine wp_seq ?_
  refine L_region ?_
  refine L_as ?_
  refine L_nil ?_
  refine E_n ?_
  refine wp_seq ?_
  refine L_region ?_
  refine L_mv ?_
  refine L_mv ?_
  refine L_u (P_lnl is45 h) ?_
  intro v w h
  refine L_u (P_mnm (t := 0) h) ?_
  intro v w h
  refine L_u (P_sll se45 h) ?_
  intro v w h
  refine L_as ?_
  refine L_nil ?_
  refine E_n ?_
  refine C_ret ?_
  show bodyPost Tryd.prog Tryd.f29 (Rt Q) .ret _ _
  exact post_tmps (ts := [2]) (.inr rfl) rfl h

/- factotum/factotumlaw07.CacheSize -/
def f9_b2 (j1 : M) (self2 : Value → Value → Value → Value → M) (t2_1 t9 t10 t11 : Value) : M :=
  lnl t2_1 fun t45 =>
  lt .i64 t11 t45 fun t46 =>
  cnd t46 (
    ia 3 t2_1 t11 fun t52 =>
    fa 0 t52 fun t53 =>
    ld t53 fun t54 =>
    cl (f32 t9 t54) fun t55 =>
    ia 3 t2_1 t11 fun t59 =>
    fa 0 t59 fun t60 =>
    ld t60 fun t61 =>
    cl (f32 t10 t61) fun t62 =>
    cl (f33 t9) fun t64 =>
    cl (f33 t10) fun t66 =>
    lnl t64 fun t68 =>
    lnl t66 fun t70 =>
    gt .i64 t68 t70 fun t71 =>
    gd t71 false (idv t64) fun t73 =>
    gd t71 false (idv t66) fun t74 =>
    gd t71 false (idv t64) fun t75 =>
    gd t71 false (lnl t75) fun t76 =>
    gd t71 false (sll 1 t74 none (some t76)) fun t77 =>
    gd t71 false (cl (f17 t73 t77)) fun t78 =>
    gd t71 false (nt t78) fun t79 =>
    pk t71 (.bool true) t79 fun t80 =>
    gd t80 false (idv t9) fun t82 =>
    gd t80 false (cl (f34 t82)) fun t83 =>
    gd t80 false (idv t10) fun t84 =>
    gd t80 false (cl (f34 t84)) fun t85 =>
    gd t80 false (gt .i64 t83 t85) fun t86 =>
    pk t80 (.bool true) t86 fun t87 =>
    gd t87 false (idv t9) fun t89 =>
    gd t87 false (cl (f34 t89)) fun t90 =>
    gd t87 false (idv t9) fun t91 =>
    gd t87 false (cl (f35 t91)) fun t92 =>
    gd t87 false (ad .i64 t90 t92) fun t93 =>
    gd t87 false (idv t10) fun t94 =>
    gd t87 false (cl (f34 t94)) fun t95 =>
    gd t87 false (idv t10) fun t96 =>
    gd t87 false (cl (f35 t96)) fun t97 =>
    gd t87 false (ad .i64 t95 t97) fun t98 =>
    gd t87 false (nei .i64 t93 t98) fun t99 =>
    pk t87 (.bool true) t99 fun t100 =>
    cnd t100 (
      rt (.bool false)
      ) (
      ad .i64 t11 (.int .i64 1) fun t48 =>
      self2 t2_1 t9 t10 t48
      )
    ) (
    j1
    )
def f9_j1 : M :=
  rt (.bool true)
def f9 (t0 t1 t2 : Value) : M :=
  bx 35 t1 fun t4 =>
  cl (f28) fun t14 =>
  nt t14 fun t15 =>
  cnd t15 (
    rt (.bool false)
    ) (
    cv .u64 t0 fun t17 =>
    re .u64 t17 (.int .u64 30) fun t18 =>
    cv .i64 t18 fun t19 =>
    ad .i64 (.int .i64 1) t19 fun t20 =>
    cl (f29 t2) fun t22 =>
    iaa 2 1 t4 (.int .i64 0) fun t23 =>
    ld t23 fun t24 =>
    cv .u64 t24 fun t25 =>
    re .u64 t25 (.int .u64 20) fun t26 =>
    cv .i64 t26 fun t27 =>
    iaa 2 1 t4 (.int .i64 1) fun t29 =>
    ld t29 fun t30 =>
    cv .u64 t30 fun t31 =>
    re .u64 t31 (.int .u64 20) fun t32 =>
    cv .i64 t32 fun t33 =>
    ad .i64 t27 t33 fun t34 =>
    cl (f31 t20) fun t36 =>
    cl (f30 t36 t27) fun t38 =>
    cl (f31 t20) fun t40 =>
    cl (f30 t40 t34) fun t42 =>
    jn (fun (j1 : M) =>
      lo (fun _ _ _ _ => bot) (f9_b2 j1) (fun l => l t22 t38 t42 (.int .i64 0))
      ) (f9_j1)
    )
theorem s9 (t0 t1 t2 : Value) (w : World) (Q : Value → World → Prop) (h : f9 t0 t1 t2 w Q) : Calls Tryd.prog 9 #[t0, t1, t2] w (Rt Q) := by
  refine calls_of (l := [t0, t1, t2]) Tryd.func9 rfl Tryd.ntmps9 (Nat.le_of_ble_eq_true rfl) ?_
  unfold f9 at h
  refine wp_seq ?_
  refine L_region ?_
  refine L_u (P_bx h) ?_
  intro v w h
  refine L_as ?_
  refine L_nil ?_
  refine E_n ?_
  refine wp_seq ?_
  refine wp_seq ?_
  refine L_region ?_
  refine L_u (N_cl Tryd.func28 rfl nn28 (fun w Q h => s28 w Q h) h) ?_
  intro v w h
  refine L_u (P_nt h) ?_
  intro v w h
  refine L_nil ?_
  refine E_n ?_
  refine C_cnd h (fun h => ?_) (fun h => ?_)
  · refine wp_seq ?_
    refine L_region ?_
    refine L_as ?_
    refine L_nil ?_
    refine E_n ?_
    refine C_ret ?_
    show bodyPost Tryd.prog Tryd.f9 (Rt Q) .ret _ _
    exact post_tmps (ts := [6]) (.inr rfl) rfl h
  · refine C_skip ?_
    refine E_n ?_
    refine wp_seq ?_
    refine L_region ?_
    refine L_mv ?_
    refine L_u (P_cv ai3 in33 h) ?_
    intro v w h
    refine L_u (P_re h) ?_
    intro v w h
    refine L_u (P_cv ai33 in3 h) ?_
    intro v w h
    refine L_u (P_ad h) ?_
    intro v w h
    refine L_as ?_
    refine L_nil ?_
    refine E_n ?_
    refine wp_seq ?_
    refine L_region ?_
    refine L_mv ?_
    refine L_u (N_cl Tryd.func29 rfl nn29 (fun w Q h => s29 _ w Q h) h) ?_
    intro v w h
    refine L_as ?_
    refine L_nil ?_
    refine E_n ?_
    refine wp_seq ?_
    refine L_region ?_
    refine L_u (P_iaa ae35 h) ?_
    intro v w h
    refine L_u (P_ld sc3 h) ?_
    intro v w h
    refine L_u (P_cv ai3 in33 h) ?_
    intro v w h
    refine L_u (P_re h) ?_
    intro v w h
    refine L_u (P_cv ai33 in3 h) ?_
    intro v w h
    refine L_as ?_
    refine L_nil ?_
    refine E_n ?_
    refine wp_seq ?_
    refine L_region ?_
    refine L_mv ?_
    refine L_u (P_iaa ae35 h) ?_
    intro v w h
    refine L_u (P_ld sc3 h) ?_
    intro v w h
    refine L_u (P_cv ai3 in33 h) ?_
    intro v w h
    refine L_u (P_re h) ?_
    intro v w h
    refine L_u (P_cv ai33 in3 h) ?_
    intro v w h
    refine L_u (P_ad h) ?_
    intro v w h
    refine L_as ?_
    refine L_nil ?_
    refine E_n ?_
    refine wp_seq ?_
    refine L_region ?_
    refine L_mv ?_
    refine L_u (N_cl Tryd.func31 rfl nn31 (fun w Q h => s31 _ w Q h) h) ?_
    intro v w h
    refine L_mv ?_
    refine L_u (N_cl Tryd.func30 rfl nn30 (fun w Q h => s30 _ _ w Q h) h) ?_
    intro v w h
    refine L_mv ?_
    refine L_u (N_cl Tryd.func31 rfl nn31 (fun w Q h => s31 _ w Q h) h) ?_
    intro v w h
    refine L_mv ?_
    refine L_u (N_cl Tryd.func30 rfl nn30 (fun w Q h => s30 _ _ w Q h) h) ?_
    intro v w h
    refine L_as ?_
    refine L_as ?_
    refine L_nil ?_
    refine E_n ?_
    refine wp_seq ?_
    refine wp_seq ?_
    refine L_region ?_
    refine L_as ?_
    refine L_nil ?_
    refine E_n ?_
    refine C_join (fun (k : M) (ρ : Nat → Value) => k) h (fun j1 J1 h => ?_) (fun ρ w h => ?_)
    · refine C_blk ?_
      refine C_lo (fun (l : Value → Value → Value → Value → M) (ρ : Nat → Value) => l (ρ 2) (ρ 9) (ρ 10) (ρ 11)) h (fun ρ w h => h) (fun nx self2 L2 ρ w h => ?_)
      unfold f9_b2 at h
      refine wp_seq ?_
      refine wp_seq ?_
      refine L_region ?_
      refine L_mv ?_
      refine L_mv ?_
      refine L_u (P_lnl is45 h) ?_
      intro v w h
      refine L_u (P_lt h) ?_
      intro v w h
      refine L_nil ?_
      refine E_n ?_
      refine C_cnd h (fun h => ?_) (fun h => ?_)
      · refine C_skip ?_
        refine E_n ?_
        refine wp_seq ?_
        refine C_blk ?_
        refine wp_seq ?_
        refine L_region ?_
        refine L_mv ?_
        refine L_mv ?_
        refine L_mv ?_
        refine L_u (P_ia se45 h) ?_
        intro v w h
        refine L_u (P_fa fo53_0 h) ?_
        intro v w h
        refine L_u (P_ld sc3 h) ?_
        intro v w h
        refine L_u (N_cl Tryd.func32 rfl nn32 (fun w Q h => s32 _ _ w Q h) h) ?_
        intro v w h
        refine L_nil ?_
        refine E_n ?_
        refine wp_seq ?_
        refine L_region ?_
        refine L_mv ?_
        refine L_mv ?_
        refine L_mv ?_
        refine L_u (P_ia se45 h) ?_
        intro v w h
        refine L_u (P_fa fo53_0 h) ?_
        intro v w h
        refine L_u (P_ld sc3 h) ?_
        intro v w h
        refine L_u (N_cl Tryd.func32 rfl nn32 (fun w Q h => s32 _ _ w Q h) h) ?_
        intro v w h
        refine L_nil ?_
        refine E_n ?_
        refine wp_seq ?_
        refine L_region ?_
        refine L_mv ?_
        refine L_u (N_cl Tryd.func33 rfl nn33 (fun w Q h => s33 _ w Q h) h) ?_
        intro v w h
        refine L_mv ?_
        refine L_u (N_cl Tryd.func33 rfl nn33 (fun w Q h => s33 _ w Q h) h) ?_
        intro v w h
        refine L_as ?_
        refine L_as ?_
        refine L_nil ?_
        refine E_n ?_
        refine wp_seq ?_
        refine L_region ?_
        refine L_mv ?_
        refine L_u (P_lnl is22 h) ?_
        intro v w h
        refine L_mv ?_
        refine L_u (P_lnl is22 h) ?_
        intro v w h
        refine L_u (P_gt h) ?_
        intro v w h
        refine L_mv ?_
        refine L_g (t := 72) h rfl rfl (fun c h => P_mv h c) ?_
        intro v w h
        refine L_g (t := 72) h rfl rfl (fun c h => P_mv h c) ?_
        intro v w h
        refine L_g (t := 72) h rfl rfl (fun c h => P_mv h c) ?_
        intro v w h
        refine L_g (t := 72) h rfl rfl (fun c h => P_lnl is22 h c) ?_
        intro v w h
        refine L_g (t := 72) h rfl rfl (fun c h => P_sll se22 h c) ?_
        intro v w h
        refine L_g (t := 72) h rfl rfl (fun c h => N_cl Tryd.func17 rfl nn17 (fun w Q h => s17 _ _ w Q h) h c) ?_
        intro v w h
        refine L_g (t := 72) h rfl rfl (fun c h => P_nt h c) ?_
        intro v w h
        refine L_u (P_pk h) ?_
        intro v w h
        refine L_mv ?_
        refine L_g (t := 81) h rfl rfl (fun c h => P_mv h c) ?_
        intro v w h
        refine L_g (t := 81) h rfl rfl (fun c h => N_cl Tryd.func34 rfl nn34 (fun w Q h => s34 _ w Q h) h c) ?_
        intro v w h
        refine L_g (t := 81) h rfl rfl (fun c h => P_mv h c) ?_
        intro v w h
        refine L_g (t := 81) h rfl rfl (fun c h => N_cl Tryd.func34 rfl nn34 (fun w Q h => s34 _ w Q h) h c) ?_
        intro v w h
        refine L_g (t := 81) h rfl rfl (fun c h => P_gt h c) ?_
        intro v w h
        refine L_u (P_pk h) ?_
        intro v w h
        refine L_mv ?_
        refine L_g (t := 88) h rfl rfl (fun c h => P_mv h c) ?_
        intro v w h
        refine L_g (t := 88) h rfl rfl (fun c h => N_cl Tryd.func34 rfl nn34 (fun w Q h => s34 _ w Q h) h c) ?_
        intro v w h
        refine L_g (t := 88) h rfl rfl (fun c h => P_mv h c) ?_
        intro v w h
        refine L_g (t := 88) h rfl rfl (fun c h => N_cl Tryd.func35 rfl nn35 (fun w Q h => s35 _ w Q h) h c) ?_
        intro v w h
        refine L_g (t := 88) h rfl rfl (fun c h => P_ad h c) ?_
        intro v w h
        refine L_g (t := 88) h rfl rfl (fun c h => P_mv h c) ?_
        intro v w h
        refine L_g (t := 88) h rfl rfl (fun c h => N_cl Tryd.func34 rfl nn34 (fun w Q h => s34 _ w Q h) h c) ?_
        intro v w h
        refine L_g (t := 88) h rfl rfl (fun c h => P_mv h c) ?_
        intro v w h
        refine L_g (t := 88) h rfl rfl (fun c h => N_cl Tryd.func35 rfl nn35 (fun w Q h => s35 _ w Q h) h c) ?_
        intro v w h
        refine L_g (t := 88) h rfl rfl (fun c h => P_ad h c) ?_
        intro v w h
        refine L_g (t := 88) h rfl rfl (fun c h => P_nei h c) ?_
        intro v w h
        refine L_u (P_pk h) ?_
        intro v w h
        refine L_nil ?_
        refine E_n ?_
        refine C_cnd h (fun h => ?_) (fun h => ?_)
        · refine wp_seq ?_
          refine L_region ?_
          refine L_as ?_
          refine L_nil ?_
          refine E_n ?_
          refine C_ret ?_
          show bodyPost Tryd.prog Tryd.f9 (Rt Q) .ret _ _
          exact post_tmps (ts := [6]) (.inr rfl) rfl h
        · refine C_skip ?_
          refine B_n ?_
          refine E_n ?_
          refine L_region ?_
          refine L_mv ?_
          refine L_u (P_ad h) ?_
          intro v w h
          refine L_as ?_
          refine L_nil ?_
          refine E_n ?_
          exact L2 _ _ h
      · refine C_exit ?_
        refine E_x ?_
        refine E_x ?_
        refine B_x ?_
        exact J1 _ _ h
    · unfold f9_j1 at h
      refine E_n ?_
      refine wp_seq ?_
      refine L_region ?_
      refine L_as ?_
      refine L_nil ?_
      refine E_n ?_
      refine C_ret ?_
      show bodyPost Tryd.prog Tryd.f9 (Rt Q) .ret _ _
      exact post_tmps (ts := [6]) (.inr rfl) rfl h
end Go.Proofs.YtongpnolikkknaaDoor

set_option maxRecDepth 20000
set_option maxHeartbeats 4000000
namespace Go.Proofs.YtongpnolikkknaaDoor
open Sh
attribute [local irreducible] wpL anyG act jn lo gdB amb kp smr nc fa ld ldn st stn ad su mu qu re lt le gt ge eqi nei bws shl shr cat eqs nes lts gts eqb neb nt pk cv al bx ex fld fldn lnl lns ia iaa ixs sls sll sla mif mnm mxm mm asrt sm smu cl cc cf ci cnd gd gdu
/- (*factotum/pager.Pager).may -/
def f99 (t0 t1 : Value) : M :=
  fa 0 t1 fun t4 =>
  ld t4 fun t5 =>
  cl (f21 t5 t0) fun t7 =>
  rt t7
end Go.Proofs.YtongpnolikkknaaDoor

namespace Go.Proofs.YtongpnolikkknaaDoor
namespace Sh
open RowKit
/-- a string's bytes as whole numbers -/
def byL (s : ByteArray) : List Int := s.data.toList.map (fun b => (b.toNat : Int))
theorem byL_len (s : ByteArray) : (byL s).length = s.size := by simp only [byL, List.length_map, Array.length_toList]; rfl
theorem byL_get (s : ByteArray) (i : Nat) (h : i < (byL s).length) : ∃ c, s[i]? = some c ∧ (byL s)[i] = (c.toNat : Int) := by
  have h' : i < s.size := by rw [byL_len] at h; exact h
  refine ⟨s[i], ?_, ?_⟩
  · rw [getElem?_pos s i h']
  · simp only [byL, List.getElem_map, Array.getElem_toList]; rfl
theorem byL_nn {s : ByteArray} {x : Int} (h : x ∈ byL s) : 0 ≤ x ∧ x ≤ 255 := by
  simp only [byL, List.mem_map] at h
  obtain ⟨b, _, rfl⟩ := h
  have := b.toNat_lt
  omega
section
variable {P : Program} {w : World} {Q : Value → World → Prop} {K : Value → M} {B : Nat}
theorem Below_bytes {A : World} (e : TypeId) (s : ByteArray) (h : Below B A w) (hB : B ≤ w.heap.size) : Below B A (Go.Lib.bytesWorld w e s) :=
  h.trans ⟨rfl, rfl, rfl, by rw [Go.Lib.bytesWorld_size]; omega, fun k hk => Go.Lib.bytesWorld_at_old w e s k (by omega)⟩
theorem cvs {src dst e : TypeId} {z : Value} {n b : Nat} {s : ByteArray} (hs : isStr P src = true) (h : slT P dst e z n b) (he : P.underlying e = some (.int .u8))
    (k : ∀ v w', rdI .u8 w' v (byL s) → Below w.heap.size w w' → K v w' Q) : sm P (convert src dst (.string s)) K w Q := by
  obtain ⟨i, h1, _⟩ := slT_info h
  unfold isStr at hs
  cases hu : P.underlying src with
  | none => simp [hu] at hs
  | some u =>
    refine ⟨_, _, Go.Lib.run_convert_string_bytes w src dst e s hu h1 he, k _ _ ?_ (Below_bytes e s (Below.refl _ w) (Nat.le_refl _))⟩
    refine ⟨_, _, by rw [byL_len], ?_⟩
    intro i hi
    have hi' : i < s.size := by rw [byL_len] at hi; exact hi
    refine ⟨_, rfl, ?_⟩
    rw [add_lit, Nat.zero_add, Go.Lib.bytesWorld_cell w e s i hi']
    have hd : i < s.data.toList.length := by simpa using hi'
    simp [byL, List.getD, hi']
/-- a block that is there stays -/
theorem stay {w w' : World} {p : Nat} {o : Obj} (hb : Below w.heap.size w w') (h : w.heap[p]? = some o) : w'.heap[p]? = some o := by
  rcases Nat.lt_or_ge p w.heap.size with hp | hp
  · rw [hb.block p hp]; exact h
  · simp [Array.getElem?_eq_none hp] at h
theorem blk_lt {w : World} {p : Nat} {o : Obj} (h : w.heap[p]? = some o) : p < w.heap.size := by
  rcases Nat.lt_or_ge p w.heap.size with hp | hp
  · exact hp
  · simp [Array.getElem?_eq_none hp] at h
theorem bt {w0 w w' : World} (b : Below w0.heap.size w0 w) (hb : Below w.heap.size w w') : Below w0.heap.size w0 w' := b.trans (hb.mono b.size)
theorem bt' {B : Nat} {w0 w w' : World} (b : Below B w0 w) (hB : B ≤ w.heap.size) (hb : Below w.heap.size w w') : Below B w0 w' := b.trans (hb.mono hB)
theorem b_psh (w : World) (o : Obj) : Below w.heap.size w (psh w o) := Below_psh (Below.refl _ w) (Nat.le_refl _)
end
end Sh
end Go.Proofs.YtongpnolikkknaaDoor

namespace Go.Proofs.YtongpnolikkknaaDoor
namespace Sh
open RowKit
section
variable {P : Program} {w : World} {d : Nat} {xs ys : Array Value} {f : Field} {fs : List Field} {r : Bool}
end
end Sh
end Go.Proofs.YtongpnolikkknaaDoor

namespace Go.Proofs.YtongpnolikkknaaDoor
namespace Sh
open RowKit
theorem son_size (l : List Int) : (strOfNums l).size = l.length := strOfNums_size l
theorem son_byL (s : ByteArray) : strOfNums (byL s) = s := by
  apply ByteArray.ext
  apply Array.toList_inj.1
  rw [strOfNums_data, byL, List.map_map]
  conv => rhs; rw [← List.map_id s.data.toList]
  apply List.map_congr_left
  intro x _
  simp
theorem byL_son {l : List Int} (h : ∀ x ∈ l, 0 ≤ x ∧ x ≤ 255) : byL (strOfNums l) = l := by
  unfold byL
  rw [strOfNums_data, List.map_map]
  conv => rhs; rw [← List.map_id l]
  apply List.map_congr_left
  intro x hx
  have := h x hx
  simp only [Function.comp_apply, id_eq, UInt8.toNat_ofNat']
  omega
theorem byL_inj {s t : ByteArray} (h : byL s = byL t) : s = t := by rw [← son_byL s, ← son_byL t, h]
theorem byL_app (s t : ByteArray) : byL (s ++ t) = byL s ++ byL t := by
  unfold byL
  rw [ByteArray.data_append, Array.toList_append, List.map_append]
theorem byL_take (s : ByteArray) (l h : Nat) : byL (s.extract l h) = ((byL s).take h).drop l := by
  unfold byL
  rw [ByteArray.data_extract, Array.toList_extract, List.drop_take]
  simp only [List.extract, List.map_take, List.map_drop]
theorem byL_nil : byL ⟨#[]⟩ = [] := rfl
section
variable {P : Program} {w : World} {Q : Value → World → Prop} {K : Value → M} {B : Nat}
theorem run_cvb {src dst e : TypeId} {z : Value} {n b : Nat} {l : List Int} {v : Value} (hs : slT P src e z n b) (he : P.underlying e = some (.int .u8)) (hd : isStr P dst = true) (hr : rdI .u8 w v l) :
    (convert src dst v).run P w = .ok (.string (strOfNums l)) w := by
  obtain ⟨i, h1, _⟩ := slT_info hs
  have hd' : P.underlying dst = some .string := by
    unfold isStr at hd
    cases hu : P.underlying dst with
    | none => simp [hu] at hd
    | some u => cases u <;> simp_all
  obtain ⟨p, c, rfl, h⟩ := hr
  rw [run_convert_bytes_string w src dst e p l.length c h1 he hd']
  cases p with
  | none =>
    have : l = [] := by
      cases l with
      | nil => rfl
      | cons x l => obtain ⟨a, ha, _⟩ := h 0 (by simp); cases ha
    subst this
    simp [Conv.bytesToString]
    rfl
  | some a =>
    have hl : (loadCells a l.length).run P w = .ok (l.map (Value.int .u8)).toArray w := by
      have := run_loadCells_list (P := P) w a (l.map (Value.int .u8)) (fun j v hj => by
        have hjl : j < l.length := by
          rcases Nat.lt_or_ge j l.length with h | h
          · exact h
          · simp [List.getElem?_eq_none (show (l.map (Value.int .u8)).length ≤ j by simpa using h)] at hj
        obtain ⟨a', e1, e2⟩ := h j hjl
        cases e1
        rw [e2]
        simp [List.getElem?_eq_getElem hjl] at hj
        rw [hj])
      simpa using this
    rw [run_bytesToString w a l.length c l hl, foldl_push_bytes]
    simp [strOfNums, ByteArray.empty, ByteArray.emptyWithCapacity]
    rfl
theorem cvb {src dst e : TypeId} {z : Value} {n b : Nat} {l : List Int} {v : Value} (hs : slT P src e z n b) (he : P.underlying e = some (.int .u8)) (hd : isStr P dst = true) (hr : rdI .u8 w v l)
    (k : K (.string (strOfNums l)) w Q) : smr P (convert src dst v) K w Q := ⟨_, run_cvb hs he hd hr, k⟩
/-- a row of whole numbers, as an argument or the call's own -/
def rdP (k : IntKind) (w : World) (v : Value) (l : List Int) : Prop :=
  (v = .slice none 0 0 ∧ l = []) ∨ ∃ a c, v = .slice (some a) l.length c ∧ ∀ i (h : i < l.length), w.cell? (a.add i) = some (.int k l[i])
theorem rdP_rd {k : IntKind} {w : World} {v : Value} {l : List Int} (h : rdP k w v l) : rdI k w v l := by
  rcases h with ⟨rfl, rfl⟩ | ⟨a, c, rfl, h⟩
  · exact ⟨none, 0, rfl, fun i h => by simp at h⟩
  · exact ⟨some a, c, rfl, fun i hi => ⟨a, rfl, h i hi⟩⟩
theorem ownI_rdP {B : Nat} {e : TypeId} {k : IntKind} {w : World} {v : Value} {l : List Int} (h : ownI B e k w v l) : rdP k w v l := by
  obtain ⟨h1, h2⟩ := h
  rcases h2 with ⟨rfl, h0⟩ | ⟨g, cap, cur, rfl, hg⟩
  · exact .inl ⟨rfl, List.length_eq_zero_iff.1 h0⟩
  · refine .inr ⟨_, _, rfl, fun i hi => ?_⟩
    rw [add_lit, Nat.zero_add]
    exact ownI_cell ⟨h1, .inr ⟨g, cap, cur, rfl, hg⟩⟩ i hi
/-- numbers behind a row of the call's own -/
theorem ap_rd {t ty e : TypeId} {k : IntKind} {b : Nat} (h : slT P t e (.int k 0) 1 b) {v u : Value} {l m : List Int} (hown : ownI B e k w v l) (hr : rdP k w u m)
    (hbytes : (l.length + m.length) * b ≤ 140737488355328) (h63 : l.length + m.length ≤ 140737488355328) (hB : B ≤ w.heap.size)
    (kk : ∀ v' w', ownI B e k w' v' (l ++ m) → w.grownBy w' v.ownBlock → K v' w' Q) : sm P (Builtin.append_ #[t, t] ty #[v, u]) K w Q := by
  obtain ⟨i, g1, g2, g3, g4, g5⟩ := slT_info h
  rcases hr with ⟨rfl, rfl⟩ | ⟨a, c, rfl, hr⟩
  · refine ⟨v, w, run_append_owned_none w B t ty e i 1 g1 g2 v l.length (l.map (Value.int k)) hown, kk v w (by rw [List.append_nil]; exact hown) (World.grownBy.refl w _)⟩
  · obtain ⟨v', w', hrun, ho, hg, _⟩ := run_append_own (P := P) w B t ty e i (.int k 0) 1 b g1 g2 g3 g4 g5 rfl (by decide) v l.length (l.map (Value.int k)) hown a m.length c (m.map (Value.int k)) (by simp) (by
        intro j u hj
        have hjl : j < m.length := by
          rcases Nat.lt_or_ge j m.length with h | h
          · exact h
          · simp [List.getElem?_eq_none (show (m.map (Value.int k)).length ≤ j by simpa using h)] at hj
        rw [hr j hjl]
        simp [List.getElem?_eq_getElem hjl] at hj
        rw [hj]) (by intro u hu; simp only [List.mem_map] at hu; obtain ⟨x, _, rfl⟩ := hu; rfl) (by unfold maxLen; omega) hbytes hB
    refine ⟨v', w', hrun, kk v' w' ?_ hg⟩
    unfold ownI
    rw [List.length_append, List.map_append]
    exact ho
end
end Sh
end Go.Proofs.YtongpnolikkknaaDoor

namespace Go.Proofs.YtongpnolikkknaaDoor
namespace Sh
open RowKit ChangeShapes
/-! one block changed -/
/-- below the old end all is as it was but block p -/
structure Chg (p : Nat) (w w' : World) : Prop where
  os : w'.os = w.os
  tape : w'.tape = w.tape
  output : w'.output = w.output
  size : w.heap.size ≤ w'.heap.size
  block : ∀ k, k < w.heap.size → k ≠ p → w'.heap[k]? = w.heap[k]?
theorem Upd.chg {p : Nat} {w w' : World} (h : Upd p w w') : Chg p w w' := ⟨h.os, h.tape, h.output, by rw [h.size]; exact Nat.le_refl _, fun k _ hk => h.block k hk⟩
theorem Chg.refl (p : Nat) (w : World) : Chg p w w := ⟨rfl, rfl, rfl, Nat.le_refl _, fun _ _ _ => rfl⟩
theorem Chg.of_below {p : Nat} {w w' : World} (h : Below w.heap.size w w') : Chg p w w' := ⟨h.os, h.tape, h.output, h.size, fun k hk _ => h.block k hk⟩
theorem Chg.trans {p : Nat} {a b c : World} (h : Chg p a b) (k : Chg p b c) : Chg p a c :=
  ⟨k.os.trans h.os, k.tape.trans h.tape, k.output.trans h.output, Nat.le_trans h.size k.size, fun i hi hp => (k.block i (Nat.lt_of_lt_of_le hi h.size) hp).trans (h.block i hi hp)⟩
theorem Chg.below {p B : Nat} {w w' : World} (h : Chg p w w') (hB : B ≤ p) (hw : B ≤ w.heap.size) : Below B w w' := ⟨h.os, h.tape, h.output, h.size, fun k hk => h.block k (by omega) (by omega)⟩
theorem Chg.keep {p q : Nat} {w w' : World} {o : Obj} (h : Chg p w w') (hq : w.heap[q]? = some o) (hne : q ≠ p) : w'.heap[q]? = some o := by rw [h.block q (blk_lt hq) hne]; exact hq
theorem Chg.drw {p : Nat} {w w' : World} (h : Chg p w w') : Chg p w (drw w') := ⟨h.os, h.tape, h.output, h.size, h.block⟩
theorem Chg.cell {p : Nat} {w w' : World} {a : Addr} {v : Value} (h : Chg p w w') (hc : w.cell? a = some v) (hne : a.block ≠ p) : w'.cell? a = some v := by
  have := cell_lt hc
  unfold World.cell? at hc ⊢
  rw [h.block _ this hne]; exact hc
theorem bc {B p : Nat} {w0 w w' : World} (b : Below B w0 w) (hB : B ≤ p) (hw : B ≤ w.heap.size) (h : Chg p w w') : Below B w0 w' := b.trans (h.below hB hw)
section
variable {w : World} {Q : Value → World → Prop} {K : Value → M} {K0 : M} {B : Nat}
theorem rds2 {b : Nat} {c : Array Value} {t : TypeId} {fr : Nat × Nat} (h : w.heap[b]? = some (.cells c t fr)) : rds w ⟨b, 0, none⟩ c :=
  rds_of_blk h (fun j v hj => by simpa using hj)
theorem ldn_box {n b : Nat} {c : Array Value} {t : TypeId} {fr : Nat × Nat} (h : w.heap[b]? = some (.cells c t fr)) (hn : c.size = n) (k : K (.agg c) w Q) : ldn n (.pointer (some ⟨b, 0, none⟩)) K w Q :=
  ⟨_, c, rfl, hn, rds2 h, k⟩
/-- one cell of a block stored -/
theorem st_box {b o : Nat} {c : Array Value} {t : TypeId} {v : Value} (h : w.heap[b]? = some (.cells c t (0, 0))) (ho : o < c.size) (hv : v.oneCell' = true)
    (k : ∀ w', w'.heap[b]? = some (.cells (c.setIfInBounds o v) t (0, 0)) → Upd b w w' → K0 w' Q) : st (.pointer (some ⟨b, o, none⟩)) v K0 w Q := by
  rw [st_e]
  refine ⟨by rw [cell_of_blk h]; simp [ho], frozen_zero h, hv, k _ (blk_setCell h) ?_⟩
  exact ⟨rfl, rfl, rfl, size_setCell, fun k hk => blk_setCell_ne hk⟩
end
/-! slices of whatever -/
abbrev RepT (α : Type) := World → List Value → α → Prop
def cellsAt (w : World) (a : Addr) (es : List Value) : Prop := ∀ j v, es[j]? = some v → w.cell? (a.add j) = some v
/-- a slice, each element n cells, that reads as l -/
def rdS {α : Type} (n : Nat) (R : RepT α) (w : World) (v : Value) (l : List α) : Prop :=
  (v = .slice none 0 0 ∧ l = []) ∨ ∃ a c, v = .slice (some a) l.length c ∧ l.length ≤ c ∧ ∀ i (h : i < l.length), ∃ es, es.length = n ∧ cellsAt w (a.add (i * n)) es ∧ R w es l[i]
theorem cellsAt_below {w w' : World} {a : Addr} {es : List Value} (hb : Below w.heap.size w w') (h : cellsAt w a es) : cellsAt w' a es := fun j v hj => cell_below hb (h j v hj)
def Stable {α : Type} (R : RepT α) : Prop := ∀ (w w' : World) (es : List Value) (x : α), Below w.heap.size w w' → R w es x → R w' es x
theorem rdS_below {α : Type} {n : Nat} {R : RepT α} (hR : Stable R) {w w' : World} {v : Value} {l : List α} (hb : Below w.heap.size w w') (h : rdS n R w v l) : rdS n R w' v l := by
  rcases h with h | ⟨a, c, rfl, hcc, h⟩
  · exact .inl h
  · refine .inr ⟨a, c, rfl, hcc, fun i hi => ?_⟩
    obtain ⟨es, h1, h2, h3⟩ := h i hi
    exact ⟨es, h1, cellsAt_below hb h2, hR _ _ _ _ hb h3⟩
theorem rdS_len {α : Type} {n : Nat} {R : RepT α} {w : World} {v : Value} {l : List α} (h : rdS n R w v l) : ∃ p c, v = .slice p l.length c := by
  rcases h with ⟨rfl, rfl⟩ | ⟨a, c, rfl, hcc, h⟩
  · exact ⟨none, 0, rfl⟩
  · exact ⟨some a, c, rfl⟩
theorem lnl_S {α : Type} {n : Nat} {R : RepT α} {w w1 : World} {v : Value} {l : List α} {K : Value → M} {Q : Value → World → Prop} (h : rdS n R w v l) (kk : K (.int .i64 l.length) w1 Q) : lnl v K w1 Q := by
  obtain ⟨p, c, rfl⟩ := rdS_len h
  rw [lnl_e]; exact kk
/-- an element's place, the same in whatever world -/
theorem rdS_at {α : Type} {n : Nat} {R : RepT α} {w : World} {v : Value} {l : List α} (h : rdS n R w v l) {i : Nat} (hi : i < l.length) :
    ∃ ad es, es.length = n ∧ cellsAt w ad es ∧ R w es l[i] ∧ ∀ (k : IntKind) (K : Value → M) (w' : World) (Q : Value → World → Prop), ia n v (.int k (i : Int)) K w' Q = K (.pointer (some ad)) w' Q := by
  rcases h with ⟨rfl, rfl⟩ | ⟨a, c, rfl, hcc, h⟩
  · simp at hi
  · obtain ⟨es, h1, h2, h3⟩ := h i hi
    refine ⟨_, es, h1, h2, h3, fun k K w' Q => ?_⟩
    rw [ia_e, Int.toNat_natCast]
    apply propext
    constructor
    · rintro ⟨_, _, h⟩; exact h
    · intro h; exact ⟨by omega, by omega, h⟩
theorem ldn_at {n : Nat} {w : World} {a : Addr} {es : List Value} {K : Value → M} {Q : Value → World → Prop} (hc : cellsAt w a es) (hn : es.length = n) (k : K (.agg es.toArray) w Q) : ldn n (.pointer (some a)) K w Q :=
  ⟨a, es.toArray, rfl, by simpa using hn, fun j v hj => hc j v (by simpa using hj), k⟩
theorem add_zero' (a : Addr) : a.add 0 = a := rfl
section
variable {P : Program}
/-- whatever is read as a T is an α, told by R, of at most that bulk -/
def Opens (P : Program) (t : TypeId) (α : Type) (R : RepT α) (bulk : α → Nat) : Prop :=
  ∀ {H : Type} (enc : TypeId × Value → H) (w : World) (held : Bool) (fuel : Nat) (cs : List Value) (x : DataW H × List MemPlace),
    DataW.trod enc P w 0 (fun _ => true) held fuel t cs = some x → (x.1.weights P t).all (· ≤ reachBytes) = true → ∃ a, R w cs a ∧ bulk a ≤ Rows.uptoBulk x.1
theorem step_of {H : Type} {enc : TypeId × Value → H} {w : World} {sp : Nat → Bool} {held : Bool} {fuel : Nat} {t : TypeId} {cs : List Value} {x : DataW H × List MemPlace} (h : DataW.trod enc P w 0 sp held fuel t cs = some x) :
    ∃ n, fuel = n + 1 ∧ DataW.trod enc P w 0 sp held (n + 1) t cs = some x := by
  cases fuel with
  | zero => simp [DataW.trod] at h
  | succ n => exact ⟨n, rfl, h⟩
theorem mapM_all' {α β : Type} {g : α → Option β} : ∀ {l : List α} {ys : List β}, l.mapM g = some ys → ys.length = l.length ∧ ∀ (i : Nat) (h : i < l.length), ∃ y, g l[i] = some y ∧ ys[i]? = some y := by
  intro l
  induction l with
  | nil => intro ys h; simp at h; subst h; simp
  | cons a l ih =>
    intro ys h
    rw [List.mapM_cons] at h
    cases ha : g a with
    | none => simp [ha] at h
    | some y =>
      cases hl : l.mapM g with
      | none => simp [ha, hl] at h
      | some zs =>
        simp [ha, hl] at h
        subst h
        obtain ⟨h1, h2⟩ := ih hl
        refine ⟨by simp [h1], fun i hi => ?_⟩
        cases i with
        | zero => exact ⟨y, ha, rfl⟩
        | succ i => simpa using h2 i (by simpa using hi)
def iR (k : IntKind) : RepT Int := fun _ cs a => cs = [.int k a] ∧ (Lit.int k a).wf = true
def bR : RepT Bool := fun _ cs a => cs = [.bool a]
/-- a slice: its cell, what it reads as, its size -/
def lR {α : Type} (n b : Nat) (R : RepT α) : RepT (List α) := fun w cs l => ∃ v, cs = [v] ∧ rdS n R w v l ∧ l.length * b ≤ reachBytes
theorem op_int {t : TypeId} {k : IntKind} (hu : P.underlying t = some (.int k)) : Opens P t Int (iR k) (fun _ => 1) := by
  intro H enc w held fuel cs x h _
  obtain ⟨a, h1, h2, h3⟩ := DataW.trod_int hu h
  refine ⟨a, ⟨h1, h3⟩, ?_⟩
  cases x with | mk d p => cases d with
    | lit l => cases l <;> simp [Rows.uptoBulk]
    | _ => simp [Rows.uptoBulk]
theorem op_bool {t : TypeId} (hu : P.underlying t = some .bool) : Opens P t Bool bR (fun _ => 1) := by
  intro H enc w held fuel cs x h _
  obtain ⟨n, rfl, h⟩ := step_of h
  rw [DataW.trod_step] at h
  unfold DataW.trodStep at h
  simp only [hu] at h
  split at h <;> first | (cases h; done) | (rename_i heq _; cases heq; done) | skip
  rename_i b _ _
  cases h
  exact ⟨b, rfl, by simp [Rows.uptoBulk]⟩
theorem cells?_at {w : World} {a : Addr} {n : Nat} {es : List Value} (h : w.cells? 0 a n = some es) : es.length = n ∧ cellsAt w a es := by
  unfold World.cells? at h
  rw [if_pos (Nat.zero_le _)] at h
  obtain ⟨h1, h2⟩ := mapM_all' h
  rw [List.length_range] at h1
  refine ⟨h1, fun j v hj => ?_⟩
  have hlt : j < es.length := by
    rcases Nat.lt_or_ge j es.length with h | h
    · exact h
    · simp [List.getElem?_eq_none h] at hj
  obtain ⟨y, g1, g2⟩ := h2 j (by simpa [← h1] using hlt)
  rw [List.getElem_range] at g1
  rw [hj] at g2
  cases g2
  exact g1
theorem sum_le_all {H : Type} {α : Type} {b : α → Nat} : ∀ (l : List α) (ys : List (DataW H)), l.length = ys.length → (∀ (i : Nat) (h : i < l.length) (h' : i < ys.length), b l[i] ≤ Rows.uptoBulk ys[i]) → (l.map b).sum ≤ Rows.uptoBulkAll ys := by
  intro l
  induction l with
  | nil => intro ys _ _; simp
  | cons x l ih =>
    intro ys hl h
    cases ys with
    | nil => simp at hl
    | cons y ys =>
      have h0 := h 0 (by simp) (by simp)
      have := ih ys (by simpa using hl) (fun i h1 h2 => h (i + 1) (Nat.succ_lt_succ h1) (Nat.succ_lt_succ h2))
      simp only [List.map_cons, List.sum_cons, Rows.uptoBulkAll]
      simp at h0
      omega
theorem choose_list {α : Type} {n : Nat} {p : Nat → α → Prop} (h : ∀ i, i < n → ∃ a, p i a) : ∃ l : List α, l.length = n ∧ ∀ i (hi : i < l.length), p i l[i] := by
  induction n with
  | zero => exact ⟨[], rfl, fun i hi => by simp at hi⟩
  | succ n ih =>
    obtain ⟨l, h1, h2⟩ := ih (fun i hi => h i (by omega))
    obtain ⟨a, ha⟩ := h n (by omega)
    refine ⟨l ++ [a], by simp [h1], fun i hi => ?_⟩
    by_cases c : i < l.length
    · rw [List.getElem_append_left c]; exact h2 i c
    · have : i = l.length := by simp at hi; omega
      subst this
      simp [h1, ha]
theorem weights_all {H : Type} {e : TypeId} : ∀ (l : List (DataW H)), (DataW.weightsAll P e l).all (· ≤ reachBytes) = true → ∀ (i : Nat) (h : i < l.length), (l[i].weights P e).all (· ≤ reachBytes) = true := by
  intro l
  induction l with
  | nil => intro _ i h; simp at h
  | cons d l ih =>
    intro hw i h
    simp only [DataW.weightsAll, List.all_append, Bool.and_eq_true] at hw
    cases i with
    | zero => exact hw.1
    | succ i => exact ih hw.2 i (by simpa using h)
theorem op_slice {t e : TypeId} {n : Nat} {α : Type} {R : RepT α} {b : α → Nat} (hu : P.underlying t = some (.slice e)) (hn : P.cellsOf e = n) (he : Opens P e α R b) : Opens P t (List α) (lR n (P.bytesOf e) R) (fun l => (l.map b).sum + 1) := by
  intro H enc w held fuel cs x h hw
  subst hn
  obtain ⟨f, rfl, h⟩ := step_of h
  rw [DataW.trod_step] at h
  unfold DataW.trodStep at h
  simp only [hu] at h
  split at h <;> first | (cases h; done) | (rename_i heq _; cases heq; done) | skip
  · cases h; exact ⟨[], ⟨_, rfl, .inl ⟨rfl, rfl⟩, by simp⟩, by simp [Rows.uptoBulk]⟩
  · rename_i a len cap heq _
    cases heq
    simp only [Option.ite_none_right_eq_some, Option.bind_eq_some_iff, Option.map_eq_some_iff, if_true] at h
    obtain ⟨hc, ys, hy, zs, hz, rfl⟩ := h
    obtain ⟨hl, hall⟩ := mapM_all' hy
    rw [List.length_range] at hl
    simp only [DataW.weights, hu, List.all_cons, List.all_append, Bool.and_eq_true, decide_eq_true_eq] at hw
    have hwa := fun (i : Nat) (h : i < (ys.map (·.1)).length) => weights_all (ys.map (·.1)) hw.2.1 i h
    have key : ∀ i, i < len → ∃ q : α, ∃ y es, ys[i]? = some y ∧ es.length = P.cellsOf e ∧ cellsAt w (a.add (i * P.cellsOf e)) es ∧ R w es q ∧ b q ≤ Rows.uptoBulk y.1 := by
      intro i hi
      obtain ⟨y, g1, g2⟩ := hall i (by simpa using hi)
      rw [List.getElem_range] at g1
      cases hcs : w.cells? 0 (a.add (i * P.cellsOf e)) (P.cellsOf e) with
      | none => simp [hcs] at g1
      | some es =>
        simp [hcs] at g1
        obtain ⟨k1, k2⟩ := cells?_at hcs
        have hlt : i < ys.length := by omega
        rw [List.getElem?_eq_getElem hlt] at g2
        have hww := hwa i (by simpa using hlt)
        cases g2
        obtain ⟨q, k3, k4⟩ := he enc w held f es _ g1 (by simpa using hww)
        have g2 : ys[i]? = some ys[i] := List.getElem?_eq_getElem hlt
        exact ⟨q, _, es, g2, k1, k2, k3, k4⟩
    obtain ⟨l, hll, hlp⟩ := choose_list key
    refine ⟨l, ?_, ?_⟩
    · refine ⟨_, rfl, .inr ⟨a, cap, by rw [hll], by rw [hll]; exact hc.2.1, fun i hi => ?_⟩, ?_⟩
      · obtain ⟨y, es, _, k1, k2, k3, _⟩ := hlp i hi
        exact ⟨es, k1, k2, k3⟩
      · have h9 := hw.1
        rw [List.length_map, hl] at h9
        rw [hll]
        exact Nat.le_trans (Nat.mul_le_mul_right _ (Nat.le_add_right _ _)) h9
    · simp only [Rows.uptoBulk]
      have := sum_le_all (b := b) l (ys.map (·.1)) (by simp [hll, hl]) (fun i h1 h2 => by
        obtain ⟨y, es, k0, _, _, _, k4⟩ := hlp i h1
        have h3 : i < ys.length := by simpa using h2
        rw [List.getElem?_eq_getElem h3] at k0
        cases k0
        simpa using k4)
      omega
/-- a struct's fields, one after the other -/
def OpensF (P : Program) (fs : List Field) (α : Type) (R : RepT α) (bulk : α → Nat) : Prop :=
  ∀ {H : Type} (enc : TypeId × Value → H) (w : World) (held : Bool) (fuel : Nat) (cs : List Value) (ys : List (DataW H × List MemPlace)),
    (fs.mapM fun f => DataW.trod enc P w 0 (fun _ => true) held fuel f.type ((cs.drop f.offset).take (P.cellsOf f.type))) = some ys →
    (DataW.weightsEach P (fs.map (·.type)) (ys.map (·.1))).all (· ≤ reachBytes) = true → ∃ a, R w cs a ∧ bulk a ≤ Rows.uptoBulkAll (ys.map (·.1))
theorem opf_nil : OpensF P [] Unit (fun _ _ _ => True) (fun _ => 0) := by
  intro H enc w held fuel cs ys h _
  exact ⟨(), trivial, by simp⟩
theorem opf_cons {f : Field} {fs : List Field} {n : Nat} {α β : Type} {R : RepT α} {S : RepT β} {b : α → Nat} {c : β → Nat} (hn : P.cellsOf f.type = n) (he : Opens P f.type α R b) (hf : OpensF P fs β S c) :
    OpensF P (f :: fs) (α × β) (fun w cs x => R w ((cs.drop f.offset).take n) x.1 ∧ S w cs x.2) (fun x => b x.1 + c x.2) := by
  intro H enc w held fuel cs ys h hw
  rw [List.mapM_cons] at h
  cases h1 : DataW.trod enc P w 0 (fun _ => true) held fuel f.type ((cs.drop f.offset).take (P.cellsOf f.type)) with
  | none => simp [h1] at h
  | some y =>
    simp only [h1] at h
    cases h2 : (fs.mapM fun f => DataW.trod enc P w 0 (fun _ => true) held fuel f.type ((cs.drop f.offset).take (P.cellsOf f.type))) with
    | none => simp [h2] at h
    | some zs =>
      simp [h2] at h
      subst h
      simp only [List.map_cons, DataW.weightsEach, List.all_append, Bool.and_eq_true] at hw
      obtain ⟨a, k1, k2⟩ := he enc w held fuel _ y h1 hw.1
      obtain ⟨a', k3, k4⟩ := hf enc w held fuel cs zs h2 hw.2
      rw [hn] at k1
      exact ⟨(a, a'), ⟨k1, k3⟩, by simp only [List.map_cons, Rows.uptoBulkAll]; omega⟩
theorem op_struct {t : TypeId} {fs : Array Field} {n : Nat} {α : Type} {R : RepT α} {b : α → Nat} (hu : P.underlying t = some (.struct fs)) (hn : P.cellsOf t = n) (hf : OpensF P fs.toList α R b) : Opens P t α (fun w cs x => cs.length = n ∧ R w cs x) (fun x => b x + 1) := by
  intro H enc w held fuel cs x h hw
  obtain ⟨f, rfl, h⟩ := step_of h
  rw [DataW.trod_step] at h
  unfold DataW.trodStep at h
  simp only [hu, hn] at h
  simp only [Option.ite_none_right_eq_some, Option.map_eq_some_iff] at h
  obtain ⟨hc, ys, hy, rfl⟩ := h
  have hf' : (fs.toList.mapM fun f' => DataW.trod enc P w 0 (fun _ => true) held f f'.type ((cs.drop f'.offset).take (P.cellsOf f'.type))) = some ys := by simpa using hy
  simp only [DataW.weights, hu] at hw
  obtain ⟨a, k1, k2⟩ := hf enc w held f cs ys hf' hw
  exact ⟨a, ⟨hc, k1⟩, by simp only [Rows.uptoBulk]; omega⟩
theorem op_arr {t e : TypeId} {m n k : Nat} {α : Type} {R : RepT α} {b : α → Nat} (hu : P.underlying t = some (.array m e)) (hn : P.cellsOf t = k) (hk : P.cellsOf e = n) (he : Opens P e α R b) :
    Opens P t (List α) (fun w cs l => cs.length = k ∧ l.length = m ∧ ∀ i (h : i < l.length), R w ((cs.drop (i * n)).take n) l[i]) (fun l => (l.map b).sum + 1) := by
  intro H enc w held fuel cs x h hw
  obtain ⟨f, rfl, h⟩ := step_of h
  rw [DataW.trod_step] at h
  unfold DataW.trodStep at h
  simp only [hu, hn] at h
  simp only [Option.ite_none_right_eq_some, Option.map_eq_some_iff, hk] at h
  obtain ⟨hc, ys, hy, rfl⟩ := h
  obtain ⟨hl, hall⟩ := mapM_all' hy
  rw [List.length_range] at hl
  simp only [DataW.weights, hu] at hw
  have hwa := fun (i : Nat) (h : i < (ys.map (·.1)).length) => weights_all (ys.map (·.1)) hw i h
  have key : ∀ i, i < m → ∃ q : α, ∃ y, ys[i]? = some y ∧ R w ((cs.drop (i * n)).take n) q ∧ b q ≤ Rows.uptoBulk y.1 := by
    intro i hi
    obtain ⟨y, g1, g2⟩ := hall i (by simpa using hi)
    rw [List.getElem_range] at g1
    have hlt : i < ys.length := by omega
    rw [List.getElem?_eq_getElem hlt] at g2
    have hww := hwa i (by simpa using hlt)
    cases g2
    obtain ⟨q, k3, k4⟩ := he enc w held f _ _ g1 (by simpa using hww)
    exact ⟨q, _, List.getElem?_eq_getElem hlt, k3, k4⟩
  obtain ⟨l, hll, hlp⟩ := choose_list key
  refine ⟨l, ⟨hc, hll, fun i hi => ?_⟩, ?_⟩
  · obtain ⟨y, _, k3, _⟩ := hlp i hi
    exact k3
  · simp only [Rows.uptoBulk]
    have := sum_le_all (b := b) l (ys.map (·.1)) (by simp [hll, hl]) (fun i h1 h2 => by
      obtain ⟨y, k0, _, k4⟩ := hlp i h1
      have h3 : i < ys.length := by simpa using h2
      rw [List.getElem?_eq_getElem h3] at k0
      cases k0
      simpa using k4)
    omega
theorem Opens.mono {t : TypeId} {α : Type} {β : Type} {R : RepT α} {S : RepT β} {b : α → Nat} {c : β → Nat} (h : Opens P t α R b) (f : ∀ w cs a, R w cs a → ∃ x, S w cs x ∧ c x ≤ b a) : Opens P t β S c := by
  intro H enc w held fuel cs x hx hw
  obtain ⟨a, h1, h2⟩ := h enc w held fuel cs x hx hw
  obtain ⟨y, h3, h4⟩ := f w cs a h1
  exact ⟨y, h3, Nat.le_trans h4 h2⟩
end
/-- an argument of one cell -/
theorem open_one {P : Program} {t : TypeId} {α : Type} {R : RepT α} {b : α → Nat} (h : Opens P t α R b) (hs : isSc P t = true) (h1 : ∀ w cs a, R w cs a → ∃ v, cs = [v])
    {H : Type} {enc : TypeId × Value → H} {W : World} {held : Bool} {r : Reach} {b0 : Nat} {v : Value} {d : DataW H} {ps : List MemPlace}
    (hv : Value.okWide P W r b0 t v) (hd : DataW.Trod enc P W 0 (fun _ => true) held t v d ps) (hw : (d.weights P t).all (· ≤ reachBytes) = true) : ∃ a, R W [v] a ∧ b a ≤ Rows.uptoBulk d := by
  obtain ⟨fuel, hf⟩ := hd
  obtain ⟨a, h2, h3⟩ := h enc W held fuel _ _ hf hw
  refine ⟨a, ?_, h3⟩
  suffices v.cells = #[v] by rw [this] at h2; exact h2
  cases v with
  | agg cs =>
    exfalso
    unfold isSc at hs
    unfold Value.okWide at hv
    cases hu : P.underlying t with
    | none => simp [hu] at hs
    | some u => cases u <;> simp [hu] at hs <;> simp [hu, Cell.okWide, Cell.ok] at hv
  | _ => rfl
/-- an argument of several -/
theorem open_agg {P : Program} {t : TypeId} {n : Nat} {α : Type} {R : RepT α} {b : α → Nat} (h : Opens P t α R b) (hs : isAg P t n = true)
    {H : Type} {enc : TypeId × Value → H} {W : World} {held : Bool} {r : Reach} {b0 : Nat} {v : Value} {d : DataW H} {ps : List MemPlace}
    (hv : Value.okWide P W r b0 t v) (hd : DataW.Trod enc P W 0 (fun _ => true) held t v d ps) (hw : (d.weights P t).all (· ≤ reachBytes) = true) : ∃ a cs, v = .agg cs ∧ R W cs.toList a ∧ b a ≤ Rows.uptoBulk d := by
  obtain ⟨fuel, hf⟩ := hd
  obtain ⟨a, h2, h3⟩ := h enc W held fuel _ _ hf hw
  unfold isAg at hs
  unfold Value.okWide at hv
  cases hu : P.underlying t with
  | none => simp [hu] at hs
  | some u => cases u <;> simp [hu] at hs <;> simp only [hu] at hv <;> (obtain ⟨cs, rfl, _⟩ := hv; exact ⟨a, cs, rfl, h2, h3⟩)
end Sh
end Go.Proofs.YtongpnolikkknaaDoor

namespace Go.Proofs.YtongpnolikkknaaDoor
namespace Sh
open RowKit
theorem wrap_u64 {x : Int} : IntKind.u64.wrap x = x % 18446744073709551616 := by
  unfold IntKind.wrap
  simp [IntKind.signed, IntKind.bits]
theorem of_drw {B : Nat} {w w' : World} (h : Below B (drw w) w') : Below B w w' := ⟨h.os, h.tape, h.output, h.size, h.block⟩
section
variable {P : Program} {w : World} {Q : Value → World → Prop} {K : Value → M} {K0 : M} {B : Nat}
theorem smr_run {s : Sem Value} {v : Value} (h : s.run P w = .ok v w) : smr P s K w Q = K v w Q := by
  rw [smr_e, h]
  apply propext
  constructor
  · rintro ⟨v', h1, h2⟩; cases h1; exact h2
  · intro h2; exact ⟨v, rfl, h2⟩
theorem pn_eq {t : TypeId} {p : Option Addr} {x y : Operand} (h : P.underlying t = some (.pointer (P.pointee t))) :
    smr P (do eqGuard .eql t x y (.pointer p) (.pointer none); binOp .eql t (.pointer p) (.pointer none)) K w Q = K (.bool p.isNone) w Q :=
  smr_run (by simp [eqGuard, run_eql_pointer_nil w t p h])
/-- the same row behind a change of a block that isn't its own -/
theorem ownI_chg {e : TypeId} {k : IntKind} {v : Value} {l : List Int} {p : Nat} {w' : World} (h : ownI B e k w v l) (hc : Chg p w w') (hp : v.ownBlock ≠ some p) : ownI B e k w' v l := by
  obtain ⟨h1, h2⟩ := h
  refine ⟨h1, ?_⟩
  rcases h2 with h2 | ⟨g, cap, cur, rfl, hg, hb, rest⟩
  · exact .inl h2
  · refine .inr ⟨g, cap, cur, rfl, hg, hc.keep hb (fun e => hp (by rw [e]; rfl)), rest⟩
theorem or_run {a b : Nat} (ha : a < 18446744073709551616) (hb : b < 18446744073709551616) : bws .or .u64 (.int .u64 (a : Int)) (.int .u64 (b : Int)) K w Q = K (.int .u64 ((a ||| b : Nat) : Int)) w Q := by
  have e : ∀ (P : Program) (w : World), (Op.intBits .or .u64 (a : Int) (b : Int)).run P w = .ok (.int .u64 ((a ||| b : Nat) : Int)) w := fun P w => by
    rw [Go.intBits_or, bits_or_u64_nat a b ha hb]; rfl
  apply propext
  constructor
  · rintro ⟨a', b', v, h1, h2, h3, h4⟩
    cases h1; cases h2
    have := (h3 default w).symm.trans (e _ w)
    cases this
    exact h4
  · intro h; exact ⟨_, _, _, rfl, rfl, e, h⟩
/-- the first of a slice -/
theorem sll_S {α : Type} {n : Nat} {R : RepT α} {v : Value} {l : List α} {k : Nat} {j : IntKind} (h : rdS n R w v l) (hk : k ≤ l.length) (kk : ∀ v', rdS n R w v' (l.take k) → K v' w Q) : sll n v none (some (.int j (k : Int))) K w Q := by
  rcases h with ⟨rfl, rfl⟩ | ⟨a, c, rfl, hcc, h⟩
  · have : k = 0 := by simpa using hk
    subst this
    refine ⟨none, 0, 0, 0, 0, rfl, ⟨_, _, rfl, by omega, by omega, by omega⟩, rfl, ?_⟩
    exact kk _ (.inl ⟨by simp, by simp⟩)
  · refine ⟨some a, l.length, c, 0, k, rfl, ⟨_, _, rfl, by omega, by omega, by omega⟩, rfl, ?_⟩
    have ev : (if c = 0 then some a else (some a).map (·.add (0 * n))) = some a := by split <;> simp [add_zero']
    rw [ev, Nat.sub_zero, Nat.sub_zero]
    refine kk _ (.inr ⟨a, c, by rw [List.length_take, Nat.min_eq_left hk], by rw [List.length_take]; omega, fun i hi => ?_⟩)
    have hi' : i < l.length := by simp at hi; omega
    obtain ⟨es, h1, h2, h3⟩ := h i hi'
    exact ⟨es, h1, h2, by simpa using h3⟩
end
end Sh
end Go.Proofs.YtongpnolikkknaaDoor

set_option maxRecDepth 20000
namespace Go.Proofs.YtongpnolikkknaaDoor
open Sh RowKit

theorem q_cong {Q : Value → World → Prop} {w : World} {b c : Bool} (h : b = c) (hq : Q (.bool b) w) : Q (.bool c) w := h ▸ hq
theorem u36 : Tryd.prog.underlying 80 = some (.pointer (Tryd.prog.pointee 80)) := by kernel_rfl
theorem u5 : Tryd.prog.underlying 5 = some (.int .u8) := by kernel_rfl
/-- how many bytes a number has -/
def wd (k : Int) : Int := if 8 < (if k < 1 then 1 else k) then 8 else (if k < 1 then 1 else k)
theorem wd_bd (k : Int) : 1 ≤ wd k ∧ wd k ≤ 8 := by unfold wd; split <;> split <;> omega
theorem f77_s (k : Int) (w : World) (Q : Value → World → Prop) (h : Q (.int .i64 (wd k)) w) : f77 (.int .i64 k) w Q := by
  unfold f77
  simp only [↓reduceIte, ↓LL, LM, Value.cells, Nat.reduceAdd, Option.some.injEq, exists_eq_left', decide_true, decide_false, if_true, if_false, reduceCtorEq, cond_true, cond_false]
  exact h
/-- the low k bytes of a number, the highest first -/
def nb (n : Nat) : Nat → List Int
  | 0 => []
  | k + 1 => ((n / 256 ^ k % 256 : Nat) : Int) :: nb n k
theorem nb_len (n : Nat) : ∀ k, (nb n k).length = k
  | 0 => rfl
  | k + 1 => by simp [nb, nb_len n k]
theorem pow8 (i : Nat) : (2 : Nat) ^ (8 * i) = 256 ^ i := by rw [Nat.pow_mul]
/-- a text as bytes -/
def sb (s : ByteArray) : List Int := ((min s.size 255 : Nat) : Int) :: (byL s).take 255
theorem bnd_hi {d m j : Nat} (h : j ≤ m) : bnd (some (.int .i64 (j : Int))) d m j := ⟨_, _, rfl, by omega, by omega, by omega⟩
theorem bnd_none {d m : Nat} : bnd none d m d := rfl
/-- a number is told whole -/
def fitB (n : Nat) (k : Int) : Bool := decide (n < 256 ^ (wd k).toNat)
theorem f76_s (n : Nat) (hn : n < 18446744073709551616) (k : Int) (w : World) (Q : Value → World → Prop) (h : Q (.bool (fitB n k)) w) : f76 (.int .u64 (n : Int)) (.int .i64 k) w Q := by
  unfold f76
  simp only [↓cl_e]
  refine f77_s k _ _ ?_
  have bd := wd_bd k
  have e1 : IntKind.i64.wrap (8 * wd k) = 8 * wd k := w64 (by omega) (by omega)
  have e2 : IntKind.i64.wrap (8 * wd k - 1) = 8 * wd k - 1 := w64 (by omega) (by omega)
  have h0 : (0 : Int) ≤ 8 * wd k - 1 := by omega
  have h1 : (0 : Int) ≤ 1 := by omega
  simp only [↓reduceIte, ↓LL, LM, Value.cells, Nat.reduceAdd, Option.some.injEq, exists_eq_left', decide_true, decide_false, if_true, if_false, reduceCtorEq, cond_true, cond_false, e1, e2, shr_e, h0, h1, true_and]
  have e3 : min (8 * wd k - 1).toNat IntKind.u64.bits = 8 * (wd k).toNat - 1 := by show min _ 64 = _; omega
  have e4 : min (1 : Int).toNat IntKind.u64.bits = 1 := rfl
  rw [e3, e4]
  have p1 : ∀ x y : Nat, (x : Int).fdiv (2 ^ y) = ((x / 2 ^ y : Nat) : Int) := fun x y => by
    rw [Int.fdiv_eq_ediv_of_nonneg _ (by exact_mod_cast Nat.zero_le _)]
    push_cast
    rfl
  rw [p1, p1, Nat.div_div_eq_div_mul, ← Nat.pow_add, show 8 * (wd k).toNat - 1 + 1 = 8 * (wd k).toNat from by omega, pow8]
  refine q_cong ?_ h
  unfold fitB
  rw [Bool.eq_iff_iff, decide_eq_true_eq, decide_eq_true_eq]
  have : n / 256 ^ (wd k).toNat = 0 ↔ n < 256 ^ (wd k).toNat := by
    rw [Nat.div_eq_zero_iff]
    have : 256 ^ (wd k).toNat ≠ 0 := Nat.pos_iff_ne_zero.1 (Nat.pow_pos (by decide))
    omega
  rw [← this]
  omega
end Go.Proofs.YtongpnolikkknaaDoor

set_option maxRecDepth 20000
namespace Go.Proofs.YtongpnolikkknaaDoor
open Sh RowKit

def nos : ByteArray := ⟨#[]⟩
def rC (s : ByteArray) (e : Int) : Array Value := #[.string s, .int .i64 e]
/-- what is taken of a reader: the text, whether it was there, what is left, the error -/
def take (s : ByteArray) (e : Int) (k : Nat) : ByteArray × Bool × ByteArray × Int :=
  if e = 0 then (if s.size < k then (nos, false, s, 2) else (s.extract 0 k, true, s.extract k s.size, 0)) else (nos, false, s, e)
theorem f80_s (p : Nat) (s : ByteArray) (e : Int) (k : Nat) (w : World) (Q : Value → World → Prop) (hp : w.heap[p]? = some (.cells (rC s e) 122 (0, 0)))
    (h : ∀ w', w'.heap[p]? = some (.cells (rC (take s e k).2.2.1 (take s e k).2.2.2) 122 (0, 0)) → Chg p w w' → Q (.tuple #[.string (take s e k).1, .bool (take s e k).2.1]) w') : f80 (.pointer (some ⟨p, 0, none⟩)) (.int .i64 (k : Int)) w Q := by
  unfold f80
  have c0 := cell_of_blk (n := 0) hp
  have c1 := cell_of_blk (n := 1) hp
  rw [pn_eq u36]
  simp only [↓reduceIte, ↓LL, LM, Value.cells, Nat.reduceAdd, Option.some.injEq, exists_eq_left', decide_true, decide_false, if_true, if_false, reduceCtorEq, cond_true, cond_false, Option.isNone_some, c0, c1, rC]
  by_cases he : e = 0
  · subst he
    by_cases c : s.size < k
    · have c' : (s.size : Int) < (k : Int) := by omega
      simp only [↓reduceIte, ↓LL, LM, Value.cells, Nat.reduceAdd, Option.some.injEq, exists_eq_left', decide_true, decide_false, if_true, if_false, reduceCtorEq, cond_true, cond_false, ne_eq, c', not_true_eq_false, c0, c1, rC]
      refine st_box hp (by simp [rC]) rfl fun w' h1 hu => ?_
      try simp only [↓reduceIte, ↓LL, LM, Value.cells, Nat.reduceAdd, Option.some.injEq, exists_eq_left', decide_true, decide_false, if_true, if_false, reduceCtorEq, cond_true, cond_false]
      have := h w'
      simp only [take, if_true, c] at this
      exact this h1 hu.chg
    · have c' : ¬ (s.size : Int) < (k : Int) := by omega
      simp only [↓reduceIte, ↓LL, LM, Value.cells, Nat.reduceAdd, Option.some.injEq, exists_eq_left', decide_true, decide_false, if_true, if_false, reduceCtorEq, cond_true, cond_false, ne_eq, c', not_true_eq_false, c0, c1, rC]
      refine ⟨s, 0, k, rfl, bnd_hi (by omega), bnd_none, ?_⟩
      simp only [↓reduceIte, ↓LL, LM, Value.cells, Nat.reduceAdd, Option.some.injEq, exists_eq_left', decide_true, decide_false, if_true, if_false, reduceCtorEq, cond_true, cond_false, c0, c1, rC]
      refine ⟨s, k, s.size, rfl, bnd_none, bnd_hi (by omega), ?_⟩
      try simp only [↓reduceIte, ↓LL, LM, Value.cells, Nat.reduceAdd, Option.some.injEq, exists_eq_left', decide_true, decide_false, if_true, if_false, reduceCtorEq, cond_true, cond_false]
      refine st_box hp (by simp [rC]) rfl fun w' h1 hu => ?_
      try simp only [↓reduceIte, ↓LL, LM, Value.cells, Nat.reduceAdd, Option.some.injEq, exists_eq_left', decide_true, decide_false, if_true, if_false, reduceCtorEq, cond_true, cond_false]
      have := h w'
      simp only [take, if_true, c, if_false] at this
      exact this h1 hu.chg
  · simp only [↓reduceIte, ↓LL, LM, Value.cells, Nat.reduceAdd, Option.some.injEq, exists_eq_left', decide_true, decide_false, if_true, if_false, reduceCtorEq, cond_true, cond_false, ne_eq, he, not_false_eq_true]
    have := h w
    simp only [take, he, if_false] at this
    exact this hp (Chg.refl _ _)
theorem max0 (k : Int) : (if k < 0 then (0 : Int) else k) = ((k.toNat : Nat) : Int) := by split <;> omega
theorem f55_s (p : Nat) (s : ByteArray) (e : Int) (k : Int) (w : World) (Q : Value → World → Prop) (hp : w.heap[p]? = some (.cells (rC s e) 122 (0, 0)))
    (h : ∀ w', w'.heap[p]? = some (.cells (rC (take s e k.toNat).2.2.1 (take s e k.toNat).2.2.2) 122 (0, 0)) → Chg p w w' → Q (.string (take s e k.toNat).1) w') : f55 (.pointer (some ⟨p, 0, none⟩)) (.int .i64 k) w Q := by
  unfold f55
  simp only [↓reduceIte, ↓LL, LM, Value.cells, Nat.reduceAdd, Option.some.injEq, exists_eq_left', decide_true, decide_false, if_true, if_false, reduceCtorEq, cond_true, cond_false, max0]
  refine f80_s p s e _ _ _ hp fun w' h1 hc => ?_
  try simp only [↓reduceIte, ↓LL, LM, Value.cells, Nat.reduceAdd, Option.some.injEq, exists_eq_left', decide_true, decide_false, if_true, if_false, reduceCtorEq, cond_true, cond_false]
  exact h w' h1 hc
/-- bytes as a number -/
def ofB : List Int → Nat → Nat
  | [], n => n
  | x :: r, n => ofB r (256 * n + x.toNat)
theorem or_add (n x : Nat) (hx : x < 256) : (256 * n) ||| x = 256 * n + x := by
  have := Nat.two_pow_add_eq_or_of_lt (i := 8) (b := x) (by simpa using hx) n
  simpa using this.symm
theorem rdn_loop (j1 : Value → M) {Q : Value → World → Prop} {v : Value} {w : World} {l : List Int} (hr : rdI .u8 w v l) (hb : ∀ x ∈ l, 0 ≤ x ∧ x ≤ 255) (hl : l.length ≤ 8) : ∀ (d m i n : Nat), i + d = l.length → d < m → n < 256 ^ i →
    j1 (.int .u64 (ofB (l.drop i) n : Nat)) w Q → itr (fun _ _ _ _ => bot) (f54_b2 j1) m (.int .u64 (n : Int)) v (.int .i64 l.length) (.int .i64 i) w Q := by
  intro d
  induction d with
  | zero =>
    intro m i n hi hm hn k
    obtain ⟨m, rfl⟩ : ∃ x, m = x + 1 := ⟨m - 1, by omega⟩
    show f54_b2 j1 _ _ _ _ _ w Q
    unfold f54_b2
    have : ¬ (i : Int) < l.length := by omega
    simp only [↓reduceIte, ↓LL, LM, Value.cells, Nat.reduceAdd, Option.some.injEq, exists_eq_left', decide_true, decide_false, if_true, if_false, reduceCtorEq, cond_true, cond_false, this]
    rw [List.drop_of_length_le (by omega)] at k
    exact k
  | succ d ih =>
    intro m i n hi hm hn k
    obtain ⟨m, rfl⟩ : ∃ x, m = x + 1 := ⟨m - 1, by omega⟩
    show f54_b2 j1 _ _ _ _ _ w Q
    unfold f54_b2
    have hlt : (i : Int) < l.length := by omega
    simp only [↓reduceIte, ↓LL, LM, Value.cells, Nat.reduceAdd, Option.some.injEq, exists_eq_left', decide_true, decide_false, if_true, if_false, reduceCtorEq, cond_true, cond_false, hlt]
    refine ia_ld hr (by omega) hlt fun hh => ?_
    have h1 : IntKind.i64.wrap ((i : Int) + 1) = ((i + 1 : Nat) : Int) := by rw [w64 (by omega) (by omega)]; rfl
    have hx := hb _ (List.getElem_mem hh)
    have e0 : (i : Int).toNat = i := rfl
    have hp : 256 ^ i ≤ 256 ^ 7 := Nat.pow_le_pow_right (by decide) (by omega)
    have e2 : IntKind.u64.wrap ((n : Int) * 2 ^ (min (8 : Int).toNat IntKind.u64.bits)) = ((256 * n : Nat) : Int) := by
      rw [show min (8 : Int).toNat IntKind.u64.bits = 8 from rfl, wrap_u64]
      omega
    have e3 : IntKind.u64.wrap l[(i : Int).toNat] = (((l[(i : Int).toNat]).toNat : Nat) : Int) := by rw [wrap_u64]; omega
    have h8 : (0 : Int) ≤ 8 := by decide
    simp only [↓reduceIte, ↓LL, LM, Value.cells, Nat.reduceAdd, Option.some.injEq, exists_eq_left', decide_true, decide_false, if_true, if_false, reduceCtorEq, cond_true, cond_false, shl_e, h8, true_and, e2, e3]
    rw [or_run (by omega) (by omega), or_add _ _ (by omega)]
    simp only [↓reduceIte, ↓LL, LM, Value.cells, Nat.reduceAdd, Option.some.injEq, exists_eq_left', decide_true, decide_false, if_true, if_false, reduceCtorEq, cond_true, cond_false, h1]
    refine ih m (i + 1) _ (by omega) (by omega) (by rw [Nat.pow_succ]; omega) ?_
    rw [List.drop_eq_getElem_cons (show i < l.length by omega)] at k
    exact k
theorem take_size (s : ByteArray) (e : Int) (k : Nat) : (take s e k).1.size ≤ k := by
  unfold take
  split
  · split
    · exact Nat.zero_le _
    · rw [ByteArray.size_extract]; omega
  · exact Nat.zero_le _
theorem f54_s (p : Nat) (s : ByteArray) (e : Int) (k : Int) (w : World) (Q : Value → World → Prop) (hp : w.heap[p]? = some (.cells (rC s e) 122 (0, 0)))
    (h : ∀ w', w'.heap[p]? = some (.cells (rC (take s e (wd k).toNat).2.2.1 (take s e (wd k).toNat).2.2.2) 122 (0, 0)) → Chg p w w' → Q (.int .u64 (ofB (byL (take s e (wd k).toNat).1) 0 : Nat)) w') : f54 (.pointer (some ⟨p, 0, none⟩)) (.int .i64 k) w Q := by
  unfold f54
  try simp only [↓reduceIte, ↓LL, LM, Value.cells, Nat.reduceAdd, Option.some.injEq, exists_eq_left', decide_true, decide_false, if_true, if_false, reduceCtorEq, cond_true, cond_false]
  refine f77_s k _ _ ?_
  have bd := wd_bd k
  rw [show wd k = (((wd k).toNat : Nat) : Int) from by omega]
  try simp only [↓reduceIte, ↓LL, LM, Value.cells, Nat.reduceAdd, Option.some.injEq, exists_eq_left', decide_true, decide_false, if_true, if_false, reduceCtorEq, cond_true, cond_false]
  refine f80_s p s e _ _ _ hp fun w' h1 hc => ?_
  try simp only [↓reduceIte, ↓LL, LM, Value.cells, Nat.reduceAdd, Option.some.injEq, exists_eq_left', decide_true, decide_false, if_true, if_false, reduceCtorEq, cond_true, cond_false]
  refine cvs st9 slt66 u5 fun v w1 hr hb => ?_
  refine lnl_rd hr ?_
  rw [jn_e]
  have hts := take_size s e (wd k).toNat
  refine ⟨_, rdn_loop (i := 0) _ hr (fun x hx => byL_nn hx) (by rw [byL_len]; omega) _ _ 0 (Nat.zero_add _) (Nat.lt_succ_self _) (by decide) ?_⟩
  unfold f54_j1
  rw [rt_e]
  exact h _ (stay hb h1) (hc.trans (.of_below hb))
theorem f57_s (p : Nat) (s : ByteArray) (e : Int) (w : World) (Q : Value → World → Prop) (hp : w.heap[p]? = some (.cells (rC s e) 122 (0, 0))) (h : Q (.int .i64 e) w) : f57 (.pointer (some ⟨p, 0, none⟩)) w Q := by
  unfold f57
  have c1 := cell_of_blk (n := 1) hp
  rw [pn_eq u36]
  simp only [↓reduceIte, ↓LL, LM, Value.cells, Nat.reduceAdd, Option.some.injEq, exists_eq_left', decide_true, decide_false, if_true, if_false, reduceCtorEq, cond_true, cond_false, Option.isNone_some, c1, rC]
  exact h
theorem f56_s (p : Nat) (s : ByteArray) (e : Int) (w : World) (Q : Value → World → Prop) (hp : w.heap[p]? = some (.cells (rC s e) 122 (0, 0))) (h : Q (.int .i64 s.size) w) : f56 (.pointer (some ⟨p, 0, none⟩)) w Q := by
  unfold f56
  have c0 := cell_of_blk (n := 0) hp
  rw [pn_eq u36]
  simp only [↓reduceIte, ↓LL, LM, Value.cells, Nat.reduceAdd, Option.some.injEq, exists_eq_left', decide_true, decide_false, if_true, if_false, reduceCtorEq, cond_true, cond_false, Option.isNone_some, c0, rC]
  exact h
theorem build52 (s : ByteArray) (w : World) : (Instr.build 122 #[(0, .string s)]).run Tryd.prog w = .ok (.agg (rC s 0)) w := by
  kernel_rfl
theorem f53_s (s : ByteArray) (w : World) (Q : Value → World → Prop) (h : ∀ p w', p = w.heap.size → w'.heap[p]? = some (.cells (rC s 0) 122 (0, 0)) → Below w.heap.size w w' → Q (.pointer (some ⟨p, 0, none⟩)) w') : f53 (.string s) w Q := by
  unfold f53
  rw [smr_run (build52 s w)]
  try simp only [↓reduceIte, ↓LL, LM, Value.cells, Nat.reduceAdd, Option.some.injEq, exists_eq_left', decide_true, decide_false, if_true, if_false, reduceCtorEq, cond_true, cond_false]
  exact h _ _ rfl blk_psh_new (b_psh _ _)
end Go.Proofs.YtongpnolikkknaaDoor

namespace Go.Proofs.YtongpnolikkknaaDoor
namespace Sh
open RowKit Go.MapKept
/-- a map's type, its keys' -/
structure KeyK (P : Program) (t kt et : TypeId) (d : TypeDesc) {α : Type} (kv : α → Value) : Prop where
  hm : P.underlying t = some (.map kt et)
  hd : P.underlying kt = some d
  key : ∀ a, IsKey d (kv a)
  inj : ∀ a b, kv a = kv b → a = b
def MapAt {α : Type} (kv : α → Value) (w : World) (b : Nat) (L : List (α × Value)) : Prop :=
  ∃ es clock, w.heap[b]? = some (.map es clock) ∧ Stamped es clock ∧ es.toList.map (fun e => (e.key, e.val)) = L.map (fun p => (kv p.1, p.2))
def put {α : Type} [DecidableEq α] (L : List (α × Value)) (k : α) (v : Value) : List (α × Value) :=
  if k ∈ L.map (·.1) then L.map (fun p => if p.1 = k then (k, v) else p) else L ++ [(k, v)]
def del {α : Type} [DecidableEq α] (L : List (α × Value)) (k : α) : List (α × Value) := L.filter (fun p => decide (p.1 ≠ k))
def lk {α : Type} [DecidableEq α] (L : List (α × Value)) (k : α) : Option Value := (L.find? (fun p => decide (p.1 = k))).map (·.2)
theorem blk_sb {w : World} {b : Nat} {o o' : Obj} (h : w.heap[b]? = some o) : (sb w b o').heap[b]? = some o' := by simp [sb, blk_lt h]
theorem Upd_sb {w : World} {b : Nat} {o : Obj} : Upd b w (sb w b o) := ⟨rfl, rfl, rfl, by simp [sb], fun k hk => by simp [sb, Array.getElem?_setIfInBounds_ne (Ne.symm hk)]⟩
section
variable {α : Type} [DecidableEq α] {kv : α → Value} {P : Program} {t kt et : TypeId} {d : TypeDesc} {w : World} {b : Nat} {L : List (α × Value)} {K : Value → M} {K0 : M} {Q : Value → World → Prop}
omit [DecidableEq α] in
theorem MapAt.stay {w' : World} (h : MapAt kv w b L) (hb : w'.heap[b]? = w.heap[b]?) : MapAt kv w' b L := by
  obtain ⟨es, clock, h1, h2, h3⟩ := h
  exact ⟨es, clock, by rw [hb]; exact h1, h2, h3⟩
omit [DecidableEq α] in
theorem MapAt.lt (h : MapAt kv w b L) : b < w.heap.size := by obtain ⟨es, clock, h1, _⟩ := h; exact blk_lt h1
omit [DecidableEq α] in
theorem MapAt.below {w' : World} (h : MapAt kv w b L) (hb : Below w.heap.size w w') : MapAt kv w' b L := h.stay (hb.block b h.lt)
omit [DecidableEq α] in
theorem MapAt.chg {w' : World} {p : Nat} (h : MapAt kv w b L) (hc : Chg p w w') (hp : b ≠ p) : MapAt kv w' b L := h.stay (hc.block b h.lt hp)
omit [DecidableEq α] in
theorem MapAt.upd {w' : World} {p : Nat} (h : MapAt kv w b L) (hc : Upd p w w') (hp : b ≠ p) : MapAt kv w' b L := h.stay (hc.block b hp)
omit [DecidableEq α] in
theorem MapAt.nodup (h : MapAt kv w b L) : (L.map (·.1)).Nodup := by
  obtain ⟨es, clock, h1, ⟨_, _, h2⟩, h3⟩ := h
  have e : es.toList.map (·.key) = (L.map (·.1)).map kv := by
    have := congrArg (List.map Prod.fst) h3
    simpa [List.map_map, Function.comp_def] using this
  rw [e] at h2
  exact List.Pairwise.of_map kv (fun a b hab e => hab (by rw [e])) h2
omit [DecidableEq α] in
theorem isKeys {es : Array MapEntry} (KK : KeyK P t kt et d kv) (h : es.toList.map (fun e => (e.key, e.val)) = L.map (fun p => (kv p.1, p.2))) : ∀ x ∈ es.toList, IsKey d x.key := by
  intro x hx
  have : (x.key, x.val) ∈ L.map (fun p => (kv p.1, p.2)) := h ▸ List.mem_map.2 ⟨x, hx, rfl⟩
  obtain ⟨p, _, e⟩ := List.mem_map.1 this
  rw [← (Prod.mk.inj e).1]
  exact KK.key _
omit [DecidableEq α] in
theorem ent_at {es : Array MapEntry} (h : es.toList.map (fun e => (e.key, e.val)) = L.map (fun p => (kv p.1, p.2))) (i : Nat) :
    (es.toList[i]?).map (fun e => (e.key, e.val)) = (L[i]?).map (fun p => (kv p.1, p.2)) := by
  rw [← List.getElem?_map, ← List.getElem?_map, h]
theorem lk_none {k : α} : lk L k = none ↔ ∀ p ∈ L, p.1 ≠ k := by simp [lk]
theorem lk_cons {a k : α} {v : Value} : lk ((a, v) :: L) k = if a = k then some v else lk L k := by
  unfold lk
  by_cases h : a = k <;> simp [h]
theorem mem_lk (hn : (L.map (·.1)).Nodup) {k : α} {v : Value} (h : (k, v) ∈ L) : lk L k = some v := by
  induction L with
  | nil => cases h
  | cons p L ih =>
    obtain ⟨a, u⟩ := p
    rw [lk_cons]
    simp only [List.map_cons, List.nodup_cons] at hn
    rcases List.mem_cons.1 h with e | h
    · cases e; simp
    · have : a ≠ k := fun e => hn.1 (e ▸ List.mem_map.2 ⟨_, h, rfl⟩)
      rw [if_neg this]
      exact ih hn.2 h
/-- what a search finds -/
theorem found (KK : KeyK P t kt et d kv) {es : Array MapEntry} {clock : Nat} (hs : Stamped es clock) (h : es.toList.map (fun e => (e.key, e.val)) = L.map (fun p => (kv p.1, p.2))) (k : α) :
    (lk L k = none ∧ Instr.findNow d (kv k) es.toList 0 = some none ∧ ∀ x ∈ es.toList, x.key ≠ kv k) ∨
    ∃ (i : Nat) (e : MapEntry) (v : Value), lk L k = some v ∧ Instr.findNow d (kv k) es.toList 0 = some (some (i, v)) ∧ es[i]? = some e ∧ e.key = kv k ∧ e.val = v ∧ L[i]? = some (k, v) := by
  have hn : (L.map (·.1)).Nodup := MapAt.nodup (w := { (default : World) with heap := #[.map es clock] }) (b := 0) ⟨es, clock, rfl, hs, h⟩
  rcases findNow_spec (KK.key k) es.toList 0 (isKeys KK h) with ⟨h1, h2⟩ | ⟨j, e, h1, h2, h3⟩
  · refine .inl ⟨lk_none.2 fun p hp e => ?_, h1, h2⟩
    have : (kv p.1, p.2) ∈ es.toList.map (fun e => (e.key, e.val)) := h ▸ List.mem_map.2 ⟨p, hp, rfl⟩
    obtain ⟨x, hx, e2⟩ := List.mem_map.1 this
    exact h2 x hx (by rw [(Prod.mk.inj e2).1, e])
  · right
    have hj := ent_at h j
    rw [h2] at hj
    cases hL : L[j]? with
    | none => simp [hL] at hj
    | some p =>
      simp [hL] at hj
      have hk : p.1 = k := KK.inj _ _ (by rw [← hj.1, h3])
      have hm : (k, p.2) ∈ L := by rw [← hk]; exact List.mem_of_getElem? hL
      refine ⟨j, e, p.2, mem_lk hn hm, ?_, by simpa using h2, h3, hj.2, by rw [← hk]; exact hL⟩
      rw [h1, hj.2, Nat.zero_add]
theorem look_ok (KK : KeyK P t kt et d kv) (h : MapAt kv w b L) {z : Value} (hz : zeroIs P et z) (k : α) :
    smr P (Instr.lookup t (.map (some b)) (kv k) true) K w Q = K (.tuple #[(lk L k).getD z, .bool (lk L k).isSome]) w Q := by
  obtain ⟨es, clock, h1, h2, h3⟩ := h
  refine smr_run ?_
  rcases found KK h2 h3 k with ⟨e1, e2, _⟩ | ⟨i, e, v, e1, e2, _, _, _, _⟩
  · simp [Instr.lookup, run_underlying KK.hm, Go.MapKept.run_getObj_map h1, Go.MapKept.run_checkKey KK.hd (KK.key k), Go.MapKept.run_findKey KK.hd e2, e1, Result.andThen, zero_run hz]
  · simp [Instr.lookup, run_underlying KK.hm, Go.MapKept.run_getObj_map h1, Go.MapKept.run_checkKey KK.hd (KK.key k), Go.MapKept.run_findKey KK.hd e2, e1, Result.andThen]
theorem look_v (KK : KeyK P t kt et d kv) (h : MapAt kv w b L) {z : Value} (hz : zeroIs P et z) (k : α) :
    smr P (Instr.lookup t (.map (some b)) (kv k) false) K w Q = K ((lk L k).getD z) w Q := by
  obtain ⟨es, clock, h1, h2, h3⟩ := h
  refine smr_run ?_
  rcases found KK h2 h3 k with ⟨e1, e2, _⟩ | ⟨i, e, v, e1, e2, _, _, _, _⟩
  · simp [Instr.lookup, run_underlying KK.hm, Go.MapKept.run_getObj_map h1, Go.MapKept.run_checkKey KK.hd (KK.key k), Go.MapKept.run_findKey KK.hd e2, e1, Result.andThen, zero_run hz]
  · simp [Instr.lookup, run_underlying KK.hm, Go.MapKept.run_getObj_map h1, Go.MapKept.run_checkKey KK.hd (KK.key k), Go.MapKept.run_findKey KK.hd e2, e1, Result.andThen]
theorem put_at {i : Nat} {k : α} {u v : Value} (hn : (L.map (·.1)).Nodup) (h : L[i]? = some (k, u)) : put L k v = L.set i (k, v) := by
  unfold put
  rw [if_pos (List.mem_map.2 ⟨_, List.mem_of_getElem? h, rfl⟩)]
  apply List.ext_getElem?
  intro j
  rw [List.getElem?_map, List.getElem?_set]
  have hi : i < L.length := by
    rcases Nat.lt_or_ge i L.length with c | c
    · exact c
    · simp [List.getElem?_eq_none c] at h
  by_cases hij : i = j
  · subst hij
    rw [h]
    simp [hi]
  · simp only [hij, if_false]
    cases hj : L[j]? with
    | none => rfl
    | some p =>
      simp only [Option.map_some]
      have : p.1 ≠ k := by
        intro e
        have h1 : (L.map (·.1))[i]? = some k := by simp [h]
        have h2 : (L.map (·.1))[j]? = some k := by simp [hj, e]
        exact hij ((List.getElem?_inj (by simpa using hi) hn).1 (by rw [h1, h2]))
      simp [this]
/-- a key's value set -/
theorem upd_map (KK : KeyK P t kt et d kv) (h : MapAt kv w b L) (k : α) (v : Value) (kk : ∀ w', MapAt kv w' b (put L k v) → Upd b w w' → K0 w' Q) : smu P (Instr.mapUpdate t (.map (some b)) (kv k) v) K0 w Q := by
  have hn := h.nodup
  obtain ⟨es, clock, h1, h2, h3⟩ := h
  rcases found KK h2 h3 k with ⟨e1, e2, e3⟩ | ⟨i, e, u, e1, e2, e3, e4, e5, e6⟩
  · refine ⟨sb w b (.map (es.push { key := kv k, val := v, born := clock }) (clock + 1)), ?_, kk _ ⟨_, _, blk_sb h1, stamped_push h2 e3, ?_⟩ Upd_sb⟩
    · simp [Instr.mapUpdate, run_underlying KK.hm, Go.MapKept.run_getObj_map h1, Go.MapKept.run_checkKey KK.hd (KK.key k), Go.MapKept.run_findKey KK.hd e2, Go.MapKept.run_setObj_map _ h1, Result.andThen, sb]
    · have : ¬ k ∈ L.map (·.1) := by
        intro hm
        obtain ⟨p, hp, e⟩ := List.mem_map.1 hm
        exact lk_none.1 e1 p hp e
      simp [put, this, h3]
  · refine ⟨sb w b (.map (es.modify i fun x => { x with key := kv k, val := v }) clock), ?_, kk _ ⟨_, _, blk_sb h1, ?_, ?_⟩ Upd_sb⟩
    · simp [Instr.mapUpdate, run_underlying KK.hm, Go.MapKept.run_getObj_map h1, Go.MapKept.run_checkKey KK.hd (KK.key k), Go.MapKept.run_findKey KK.hd e2, e3, e4, Go.MapKept.run_keyThatStays (KK.key k), Go.MapKept.run_setObj_map _ h1, Result.andThen, sb]
    · exact stamped_modify h2 _ _ (fun _ _ => rfl) (fun e' _ he' => by rw [e3] at he'; cases he'; exact e4.symm)
    · rw [put_at hn e6]
      apply List.ext_getElem?
      intro j
      have hj := ent_at h3 j
      have hi := ent_at h3 i
      simp only [List.getElem?_map, Array.getElem?_toList, Array.getElem?_modify, List.getElem?_set] at hj ⊢
      by_cases hij : i = j
      · subst hij
        have hlt : i < L.length := by
          rcases Nat.lt_or_ge i L.length with c | c
          · exact c
          · simp [List.getElem?_eq_none c] at e6
        simp [e3, hlt]
      · simp only [hij, if_false]
        exact hj
omit [DecidableEq α] in
theorem map_eraseIdx' {β γ : Type} (f : β → γ) (l : List β) (i : Nat) : (l.eraseIdx i).map f = (l.map f).eraseIdx i := by
  rw [List.eraseIdx_eq_take_drop_succ, List.eraseIdx_eq_take_drop_succ, List.map_append, List.map_take, List.map_drop]
/-- a key deleted -/
theorem del_map {ts0 : Nat} {ty : TypeId} (KK : KeyK P t kt et d kv) (h : MapAt kv w b L) (k : α) (kk : ∀ w', MapAt kv w' b (del L k) → Upd b w w' → K (.tuple #[]) w' Q) : sm P (Builtin.delete_ #[t, ts0] ty #[.map (some b), kv k]) K w Q := by
  have hn := h.nodup
  obtain ⟨es, clock, h1, h2, h3⟩ := h
  rcases found KK h2 h3 k with ⟨e1, e2, e3⟩ | ⟨i, e, u, e1, e2, e3, e4, e5, e6⟩
  · refine ⟨.tuple #[], sb w b (.map es clock), ?_, kk _ ⟨_, _, blk_sb h1, h2, ?_⟩ Upd_sb⟩
    · simp [Builtin.delete_, run_underlying KK.hm, Go.MapKept.run_getObj_map h1, Go.MapKept.run_checkKey KK.hd (KK.key k), Go.MapKept.run_findKey KK.hd e2, Go.MapKept.run_setObj_map _ h1, Result.andThen, sb]
    · rw [h3]
      congr 1
      unfold del
      rw [List.filter_eq_self.2]
      intro p hp
      simpa using lk_none.1 e1 p hp
  · refine ⟨.tuple #[], sb w b (.map (es.eraseIdxIfInBounds i) clock), ?_, kk _ ⟨_, _, blk_sb h1, stamped_erase h2 _, ?_⟩ Upd_sb⟩
    · simp [Builtin.delete_, run_underlying KK.hm, Go.MapKept.run_getObj_map h1, Go.MapKept.run_checkKey KK.hd (KK.key k), Go.MapKept.run_findKey KK.hd e2, Go.MapKept.run_setObj_map _ h1, Result.andThen, sb]
    · have hi : i < es.size := by
        rcases Nat.lt_or_ge i es.size with c | c
        · exact c
        · simp [Array.getElem?_eq_none c] at e3
      have e7 : (es.eraseIdxIfInBounds i).toList = es.toList.eraseIdx i := by
        unfold Array.eraseIdxIfInBounds
        simp [hi]
      rw [e7, map_eraseIdx', h3, ← map_eraseIdx']
      congr 1
      have hiL : i < L.length := by
        rcases Nat.lt_or_ge i L.length with c | c
        · exact c
        · simp [List.getElem?_eq_none c] at e6
      have e8 : L = L.take i ++ (k, u) :: L.drop (i + 1) := by
        have hLi : L[i] = (k, u) := by rw [List.getElem?_eq_getElem hiL] at e6; exact Option.some.inj e6
        rw [← hLi, List.getElem_cons_drop, List.take_append_drop]
      have hn' := hn
      rw [e8, List.map_append, List.map_cons, List.nodup_append] at hn'
      obtain ⟨_, n2, n3⟩ := hn'
      rw [List.nodup_cons] at n2
      have f1 : ∀ p ∈ L.take i, p.1 ≠ k := fun p hp e => n3 p.1 (List.mem_map.2 ⟨p, hp, rfl⟩) k (by simp) e
      have f2 : ∀ p ∈ L.drop (i + 1), p.1 ≠ k := fun p hp e => n2.1 (List.mem_map.2 ⟨p, hp, e⟩)
      rw [List.eraseIdx_eq_take_drop_succ]
      conv => rhs; rw [e8]
      unfold del
      rw [List.filter_append, List.filter_cons]
      simp only [ne_eq, not_true_eq_false, decide_false, Bool.false_eq_true, if_false]
      rw [List.filter_eq_self.2 (fun p hp => by simpa using f1 p hp), List.filter_eq_self.2 (fun p hp => by simpa using f2 p hp)]
/-- all keys deleted -/
theorem clear_map {ty : TypeId} (KK : KeyK P t kt et d kv) (h : MapAt kv w b L) (kk : ∀ w', MapAt kv w' b [] → Upd b w w' → K (.tuple #[]) w' Q) : sm P (Builtin.clear_ #[t] ty #[.map (some b)]) K w Q := by
  obtain ⟨es, clock, h1, h2, h3⟩ := h
  refine ⟨.tuple #[], sb w b (.map #[] clock), ?_, kk _ ⟨_, _, blk_sb h1, stamped_empty _, rfl⟩ Upd_sb⟩
  simp [Builtin.clear_, run_underlying KK.hm, Go.MapKept.run_getObj_map h1, Go.MapKept.run_setObj_map _ h1, Result.andThen, sb]
omit [DecidableEq α] in
/-- a new map -/
theorem mm_map (kk : ∀ w', MapAt kv w' w.heap.size [] → Below w.heap.size w w' → K (.map (some w.heap.size)) w' Q) : mm K w Q :=
  kk _ ⟨#[], 0, blk_psh_new, stamped_empty _, rfl⟩ (b_psh _ _)
/-- an iterator over a map: what has not yet been told -/
def RangeAt {α : Type} (kv : α → Value) (w : World) (r b : Nat) (L rest : List (α × Value)) : Prop :=
  ∃ es clock since seen c0, w.heap[b]? = some (.map es clock) ∧ w.heap[r]? = some (.mapIter (some b) since seen c0) ∧ Stamped es clock ∧ (∀ x ∈ es.toList, x.born < since) ∧ since ≤ c0 ∧ since ≤ clock ∧
    es.toList.map (fun e => (e.key, e.val)) = L.map (fun p => (kv p.1, p.2)) ∧ (leftOf es seen).toList.map (fun e => (e.key, e.val)) = rest.map (fun p => (kv p.1, p.2))
omit [DecidableEq α] in
theorem RangeAt.map {r : Nat} {rest : List (α × Value)} (h : RangeAt kv w r b L rest) : MapAt kv w b L := by
  obtain ⟨es, clock, since, seen, c0, h1, h2, h3, h4, h5, h6, h7, h8⟩ := h
  exact ⟨es, clock, h1, h3, h7⟩
omit [DecidableEq α] in
theorem RangeAt.stay {r : Nat} {rest : List (α × Value)} {w' : World} (h : RangeAt kv w r b L rest) (hb : w'.heap[b]? = w.heap[b]?) (hr : w'.heap[r]? = w.heap[r]?) : RangeAt kv w' r b L rest := by
  obtain ⟨es, clock, since, seen, c0, h1, h2, h3⟩ := h
  exact ⟨es, clock, since, seen, c0, by rw [hb]; exact h1, by rw [hr]; exact h2, h3⟩
omit [DecidableEq α] in
theorem RangeAt.lt {r : Nat} {rest : List (α × Value)} (h : RangeAt kv w r b L rest) : b < w.heap.size ∧ r < w.heap.size := by
  obtain ⟨es, clock, since, seen, c0, h1, h2, _⟩ := h
  exact ⟨blk_lt h1, blk_lt h2⟩
omit [DecidableEq α] in
theorem RangeAt.below {r : Nat} {rest : List (α × Value)} {w' : World} (h : RangeAt kv w r b L rest) (hb : Below w.heap.size w w') : RangeAt kv w' r b L rest := h.stay (hb.block _ h.lt.1) (hb.block _ h.lt.2)
omit [DecidableEq α] in
theorem RangeAt.chg {r p : Nat} {rest : List (α × Value)} {w' : World} (h : RangeAt kv w r b L rest) (hb : Chg p w w') (h1 : b ≠ p) (h2 : r ≠ p) : RangeAt kv w' r b L rest := h.stay (hb.block _ h.lt.1 h1) (hb.block _ h.lt.2 h2)
omit [DecidableEq α] in
theorem range_map (KK : KeyK P t kt et d kv) (h : MapAt kv w b L) (kk : ∀ w', RangeAt kv w' w.heap.size b L L → Below w.heap.size w w' → K (.pointer (some ⟨w.heap.size, 0, none⟩)) w' Q) : sm P (Instr.range t (.map (some b))) K w Q := by
  obtain ⟨es, clock, h1, h2, h3⟩ := h
  have hlt := blk_lt h1
  refine ⟨.pointer (some ⟨w.heap.size, 0, none⟩), psh w (.mapIter (some b) clock #[] clock), ?_, kk _ ⟨es, clock, clock, #[], clock, ?_, blk_psh_new, h2, h2.1, Nat.le_refl _, Nat.le_refl _, h3, ?_⟩ (b_psh _ _)⟩
  · simp [Instr.range, run_underlying KK.hm, Go.MapKept.run_getObj_map h1, Result.andThen, newObj, psh, Sem.run]
  · rw [blk_psh_old hlt]; exact h1
  · have : leftOf es #[] = es := by simp [leftOf]
    rw [this]; exact h3
theorem filter_born : ∀ (l : List MapEntry), (l.map (·.born)).Nodup → ∀ (i : Nat) (hi : i < l.length), l.filter (fun x => !(x.born == l[i].born)) = l.eraseIdx i := by
  intro l
  induction l with
  | nil => intro _ i hi; simp at hi
  | cons a l ih =>
    intro hn i hi
    simp only [List.map_cons, List.nodup_cons] at hn
    cases i with
    | zero =>
      simp only [List.getElem_cons_zero, List.eraseIdx_cons_zero, List.filter_cons, beq_self_eq_true, Bool.not_true, Bool.false_eq_true, if_false]
      rw [List.filter_eq_self.2]
      intro x hx
      have : x.born ≠ a.born := fun e => hn.1 (e ▸ List.mem_map.2 ⟨x, hx, rfl⟩)
      simpa using this
    | succ i =>
      have hi' : i < l.length := by simpa using hi
      have : a.born ≠ l[i].born := fun e => hn.1 (e ▸ List.mem_map.2 ⟨_, List.getElem_mem hi', rfl⟩)
      simp only [List.getElem_cons_succ, List.eraseIdx_cons_succ, List.filter_cons]
      rw [if_pos (by simpa using this), ih hn.2 i hi']
end
end Sh
end Go.Proofs.YtongpnolikkknaaDoor

namespace Go.Proofs.YtongpnolikkknaaDoor
namespace Sh
open RowKit Go.MapKept
/-- a map's type, its keys' -/
theorem find_born : ∀ (l : List MapEntry), (l.map (·.born)).Nodup → ∀ e ∈ l, l.find? (fun x => x.born == e.born) = some e := by
  intro l
  induction l with
  | nil => intro _ e h; cases h
  | cons a l ih =>
    intro hn e he
    simp only [List.map_cons, List.nodup_cons] at hn
    rw [List.find?_cons]
    rcases List.mem_cons.1 he with rfl | he
    · simp
    · have : a.born ≠ e.born := fun c => hn.1 (c ▸ List.mem_map.2 ⟨e, he, rfl⟩)
      have h2 : (a.born == e.born) = false := by simpa using this
      rw [h2]
      exact ih hn.2 e he
section
variable {α : Type} [DecidableEq α] {kv : α → Value} {P : Program} {t kt et : TypeId} {d : TypeDesc} {w : World} {b : Nat} {L : List (α × Value)} {K : Value → M} {K0 : M} {Q : Value → World → Prop}
omit [DecidableEq α] in
theorem next_map_e {ty : TypeId} {r : Nat} {rest : List (α × Value)} (hrb : r ≠ b) (h : RangeAt kv w r b L rest) (k0 : rest = [] → K (.tuple #[.bool false]) w Q)
    (k1 : ∀ (i : Nat) (hi : i < rest.length) w', RangeAt kv w' r b L (rest.eraseIdx i) → Chg r w w' → (∀ w2 : World, w2.heap[r]? = w'.heap[r]? → w2.heap[b]? = w'.heap[b]? → (Instr.entry (.pointer (some ⟨r, 0, none⟩))).run P w2 = .ok (.tuple #[kv rest[i].1, rest[i].2]) w2) → K (.tuple #[.bool true, kv rest[i].1, rest[i].2]) w' Q) :
    sm P (Instr.next (.pointer (some ⟨r, 0, none⟩)) false ty) K w Q := by
  obtain ⟨es, clock, since, seen, c0, h1, h2, h3, h4, h5, h6, h7, h8⟩ := h
  rcases run_next_at (P := P) w ty r b since c0 seen es clock h2 h1 h4 h5 with ⟨e1, e2⟩ | ⟨e, he, w1, hw1, hrun⟩
  · refine ⟨_, w, e2, k0 ?_⟩
    have : (leftOf es seen).toList = [] := by simpa using e1
    rw [this] at h8
    simpa using h8.symm
  · obtain ⟨i, hi, hie⟩ := List.mem_iff_getElem.1 he
    have hli : i < rest.length := by have := congrArg List.length h8; simp at this; simp at hi; omega
    have hent : e.key = kv rest[i].1 ∧ e.val = rest[i].2 := by
      have := congrArg (fun l => l[i]?) h8
      simp only [List.getElem?_map, List.getElem?_eq_getElem hi, List.getElem?_eq_getElem hli, Option.map_some, hie] at this
      simpa using this
    refine ⟨_, _, hrun, ?_⟩
    rw [hent.1, hent.2]
    have hw1h : w1.heap = w.heap := by rcases hw1 with rfl | rfl <;> rfl
    refine k1 i hli _ ⟨es, clock, since, seen.push e.born, clock, ?_, ?_, h3, h4, h6, h6, h7, ?_⟩ ?_ ?_
    · show (w1.heap.setIfInBounds r _)[b]? = _
      rw [Array.getElem?_setIfInBounds_ne hrb, hw1h]; exact h1
    · show (w1.heap.setIfInBounds r _)[r]? = _
      rw [hw1h]
      have := blk_lt h2
      simp [this]
    · have : (leftOf es (seen.push e.born)).toList = (leftOf es seen).toList.eraseIdx i := by
        have hnd : ((leftOf es seen).toList.map (·.born)).Nodup := by
          unfold leftOf
          rw [Array.toList_filter]
          exact List.Nodup.sublist (List.Sublist.map _ List.filter_sublist) h3.2.1
        rw [← filter_born _ hnd i hi, hie]
        unfold leftOf
        simp only [Array.toList_filter, List.filter_filter]
        apply List.filter_congr
        intro x _
        rw [Bool.eq_iff_iff]
        simp [Array.mem_push, not_or, and_comm]
      rw [this, map_eraseIdx', h8, ← map_eraseIdx']
    · refine ⟨?_, ?_, ?_, ?_, ?_⟩
      · rcases hw1 with rfl | rfl <;> rfl
      · rcases hw1 with rfl | rfl <;> rfl
      · rcases hw1 with rfl | rfl <;> rfl
      · show _ ≤ (w1.heap.setIfInBounds r _).size
        rw [Array.size_setIfInBounds, hw1h]; exact Nat.le_refl _
      · intro k hk hne
        show (w1.heap.setIfInBounds r _)[k]? = _
        rw [Array.getElem?_setIfInBounds_ne (Ne.symm hne), hw1h]
    · intro w2 q1 q2
      have g1 : w2.heap[r]? = some (.mapIter (some b) since (seen.push e.born) clock) := by
        rw [q1]
        show (w1.heap.setIfInBounds r _)[r]? = _
        rw [hw1h]
        have := blk_lt h2
        simp [this]
      have g2 : w2.heap[b]? = some (.map es clock) := by
        rw [q2]
        show (w1.heap.setIfInBounds r _)[b]? = _
        rw [Array.getElem?_setIfInBounds_ne hrb, hw1h]; exact h1
      have hem : e ∈ es.toList := by
        have : e ∈ (leftOf es seen).toList := he
        unfold leftOf at this
        rw [Array.toList_filter] at this
        exact (List.mem_filter.1 this).1
      have hfind : es.find? (fun x => x.born == e.born) = some e := by
        rw [← Array.find?_toList]
        exact find_born es.toList h3.2.1 e hem
      have o1 : (getObj r).run P w2 = .ok (.mapIter (some b) since (seen.push e.born) clock) w2 := by simp [getObj, Sem.run, g1]
      have o2 : (getObj b).run P w2 = .ok (.map es clock) w2 := Go.MapKept.run_getObj_map g2
      rw [← hent.1, ← hent.2]
      simp [Instr.entry, o1, o2, hfind, Result.andThen]
end
end Sh
end Go.Proofs.YtongpnolikkknaaDoor

namespace Go.Proofs.YtongpnolikkknaaDoor
namespace Sh
open RowKit Go.MapKept
structure KeyG {α : Type} (P : Program) (t kt et : TypeId) (kv : α → Value) (ok : α → Prop) : Prop where
  hm : P.underlying t = some (.map kt et)
  law : WideMaps.KeyLaw P kt
  ko : ∀ a, ok a → ∃ l, keyOf P kt (kv a) = some l
  inj : ∀ a b, kv a = kv b → a = b
section
variable {α : Type} [DecidableEq α] {kv : α → Value} {ok : α → Prop} {P : Program} {t kt et : TypeId} {w : World} {b : Nat} {L : List (α × Value)} {K : Value → M} {K0 : M} {Q : Value → World → Prop}
/-- a map of which one entry is at hand -/
def EntryAt {α : Type} (kv : α → Value) (w : World) (b : Nat) (L : List (α × Value)) (k : α) (st : Nat) : Prop :=
  ∃ es clock, w.heap[b]? = some (.map es clock) ∧ Stamped es clock ∧ es.toList.map (fun e => (e.key, e.val)) = L.map (fun p => (kv p.1, p.2)) ∧ ∃ (i : Nat) (e : MapEntry), es[i]? = some e ∧ e.born = st ∧ e.key = kv k
omit [DecidableEq α] in
theorem EntryAt.stay {w' : World} {k : α} {st : Nat} (h : EntryAt kv w b L k st) (hb : w'.heap[b]? = w.heap[b]?) : EntryAt kv w' b L k st := by
  obtain ⟨es, clock, h1, h2⟩ := h
  exact ⟨es, clock, by rw [hb]; exact h1, h2⟩
omit [DecidableEq α] in
theorem EntryAt.lt {k : α} {st : Nat} (h : EntryAt kv w b L k st) : b < w.heap.size := by obtain ⟨es, clock, h1, _⟩ := h; exact blk_lt h1
omit [DecidableEq α] in
theorem EntryAt.map {k : α} {st : Nat} (h : EntryAt kv w b L k st) : MapAt kv w b L := by
  obtain ⟨es, clock, h1, h2, h3, _⟩ := h
  exact ⟨es, clock, h1, h2, h3⟩
end
end Sh
end Go.Proofs.YtongpnolikkknaaDoor

namespace Go.Proofs.YtongpnolikkknaaDoor
namespace Sh
open RowKit
section
variable {P : Program} {w : World} {Q : Value → World → Prop} {K : Value → M} {t e : TypeId} {name : String} {f : FuncId} {args : Array Value} {v : Value}
end
end Sh
end Go.Proofs.YtongpnolikkknaaDoor

namespace Go.Proofs.YtongpnolikkknaaDoor
namespace Sh
open RowKit
/-- of the old blocks none but those of S has changed -/
structure ChgS (S : Nat → Prop) (w w' : World) : Prop where
  os : w'.os = w.os
  tape : w'.tape = w.tape
  output : w'.output = w.output
  size : w.heap.size ≤ w'.heap.size
  block : ∀ k, k < w.heap.size → ¬ S k → w'.heap[k]? = w.heap[k]?
theorem of_drw' {w w' : World} (h : Below (Sh.drw w).heap.size (Sh.drw w) w') : Below w.heap.size w w' := ⟨h.os, h.tape, h.output, h.size, h.block⟩
section
variable {S T : Nat → Prop} {w w' w2 : World}
theorem ChgS.refl (S : Nat → Prop) (w : World) : ChgS S w w := ⟨rfl, rfl, rfl, Nat.le_refl _, fun _ _ _ => rfl⟩
theorem ChgS.mono (h : ChgS S w w') (hs : ∀ k, S k → T k) : ChgS T w w' := ⟨h.os, h.tape, h.output, h.size, fun k a b => h.block k a (fun c => b (hs k c))⟩
theorem ChgS.mono' (h : ChgS S w w') (hs : ∀ k, k < w.heap.size → S k → T k) : ChgS T w w' := ⟨h.os, h.tape, h.output, h.size, fun k a b => h.block k a (fun c => b (hs k a c))⟩
theorem ChgS.trans (h : ChgS S w w') (k : ChgS T w' w2) (hs : ∀ x, x < w.heap.size → T x → S x) : ChgS S w w2 :=
  ⟨k.os.trans h.os, k.tape.trans h.tape, k.output.trans h.output, Nat.le_trans h.size k.size, fun i hi hp => (k.block i (Nat.lt_of_lt_of_le hi h.size) (fun c => hp (hs i hi c))).trans (h.block i hi hp)⟩
theorem ChgS.of_below (h : Below w.heap.size w w') : ChgS S w w' := ⟨h.os, h.tape, h.output, h.size, fun k hk _ => h.block k hk⟩
theorem ChgS.of_upd {p : Nat} (h : Upd p w w') (hp : S p) : ChgS S w w' := ⟨h.os, h.tape, h.output, by rw [h.size]; exact Nat.le_refl _, fun k _ hk => h.block k (fun e => hk (e ▸ hp))⟩
theorem ChgS.of_chg {p : Nat} (h : Chg p w w') (hp : S p) : ChgS S w w' := ⟨h.os, h.tape, h.output, h.size, fun k hl hk => h.block k hl (fun e => hk (e ▸ hp))⟩
theorem ChgS.below {B : Nat} (h : ChgS S w w') (hB : ∀ k, S k → B ≤ k) (hw : B ≤ w.heap.size) : Below B w w' := ⟨h.os, h.tape, h.output, h.size, fun k hk => h.block k (by omega) (fun c => by have := hB k c; omega)⟩
theorem ChgS.keep {q : Nat} {o : Obj} (h : ChgS S w w') (hq : w.heap[q]? = some o) (hne : ¬ S q) : w'.heap[q]? = some o := by rw [h.block q (blk_lt hq) hne]; exact hq
theorem ChgS.drw (h : ChgS S w w') : ChgS S w (drw w') := ⟨h.os, h.tape, h.output, h.size, h.block⟩
theorem ChgS.of_drw (h : ChgS S (Sh.drw w) w') : ChgS S w w' := ⟨h.os, h.tape, h.output, h.size, h.block⟩
theorem bs {B : Nat} {w0 : World} (b : Below B w0 w) (hB : ∀ k, S k → B ≤ k) (hw : B ≤ w.heap.size) (h : ChgS S w w') : Below B w0 w' := b.trans (h.below hB hw)
theorem ChgS.grown {w' : World} {row : Option Nat} (hg : w.grownBy w' row) (hr : ∀ k, row = some k → S k) : ChgS S w w' := by
  refine ⟨hg.os, hg.tape, hg.output, hg.size, fun k hk hs => hg.block k hk (fun e => hs (hr k e.symm))⟩
end
/-- a row of one-cell values, the call's own -/
def ownV (B : Nat) (e : TypeId) (w : World) (v : Value) (xs : List Value) : Prop := w.ownsRow B e 1 v xs.length xs
section
variable {P : Program} {w : World} {Q : Value → World → Prop} {K : Value → M} {K0 : M} {B : Nat} {e : TypeId} {v : Value} {xs : List Value}
theorem ownV_nil : ownV B e w (.slice none 0 0) [] := World.ownsRow_nil w B e 1
/-- the row's block, if it has one -/
theorem ownV_cases (h : ownV B e w v xs) : (v = .slice none 0 0 ∧ xs = []) ∨ ∃ g cap cur, v = .slice (some ⟨g, 0, none⟩) xs.length cap ∧ B ≤ g ∧ w.heap[g]? = some (.cells cur e (0, 0)) ∧ xs.length ≤ cap ∧ cap ≤ maxLen ∧ cur.size = cap ∧ cur.toList.take xs.length = xs := by
  obtain ⟨h1, h2⟩ := h
  rcases h2 with ⟨rfl, h0⟩ | ⟨g, cap, cur, rfl, hg, hb, hn, hm, hs, ht⟩
  · exact .inl ⟨rfl, List.length_eq_zero_iff.1 h0⟩
  · exact .inr ⟨g, cap, cur, rfl, hg, hb, hn, hm, by simpa using hs, by simpa using ht⟩
theorem ownV_mk {g cap : Nat} {cur : Array Value} (hg : B ≤ g) (hb : w.heap[g]? = some (.cells cur e (0, 0))) (hn : xs.length ≤ cap) (hm : cap ≤ maxLen) (hs : cur.size = cap) (ht : cur.toList.take xs.length = xs) : ownV B e w (.slice (some ⟨g, 0, none⟩) xs.length cap) xs :=
  ⟨by simp, .inr ⟨g, cap, cur, rfl, hg, hb, hn, hm, by simpa using hs, by simpa using ht⟩⟩
theorem ownV_len (h : ownV B e w v xs) : ∃ p c, v = .slice p xs.length c := by
  rcases ownV_cases h with ⟨rfl, rfl⟩ | ⟨g, cap, cur, rfl, _⟩
  · exact ⟨none, 0, rfl⟩
  · exact ⟨_, _, rfl⟩
theorem ownV_blk (h : ownV B e w v xs) (hne : xs ≠ []) : ∃ g cap, v = .slice (some ⟨g, 0, none⟩) xs.length cap ∧ v.ownBlock = some g ∧ B ≤ g ∧ (∃ cur, w.heap[g]? = some (.cells cur e (0, 0))) ∧ ∀ (i : Nat) (hi : i < xs.length), w.cell? ⟨g, i, none⟩ = some xs[i] := by
  rcases ownV_cases h with ⟨rfl, rfl⟩ | ⟨g, cap, cur, rfl, hg, hb, hn, hm, hs, ht⟩
  · exact absurd rfl hne
  · refine ⟨g, cap, rfl, rfl, hg, ⟨cur, hb⟩, fun i hi => ?_⟩
    rw [cell_of_blk hb]
    have : (cur.toList.take xs.length)[i]? = xs[i]? := by rw [ht]
    rw [List.getElem?_take_of_lt hi] at this
    rw [← Array.getElem?_toList, this, List.getElem?_eq_getElem hi]
theorem lnl_V {w1 : World} (h : ownV B e w v xs) (kk : K (.int .i64 xs.length) w1 Q) : lnl v K w1 Q := by
  obtain ⟨p, c, rfl⟩ := ownV_len h
  rw [lnl_e]; exact kk
theorem ia_at {g l c i : Nat} {k : IntKind} (hi : i < l) : ia 1 (.slice (some ⟨g, 0, none⟩) l c) (.int k (i : Int)) K w Q = K (.pointer (some ⟨g, i, none⟩)) w Q := by
  rw [ia_e, Int.toNat_natCast, Nat.mul_one, add_lit, Nat.zero_add]
  apply propext
  constructor
  · rintro ⟨_, _, h⟩; exact h
  · intro h; exact ⟨by omega, by omega, h⟩
theorem ownV_stay {w' : World} (h : ownV B e w v xs) (hb : ∀ g, v.ownBlock = some g → w'.heap[g]? = w.heap[g]?) : ownV B e w' v xs := by
  rcases ownV_cases h with ⟨rfl, rfl⟩ | ⟨g, cap, cur, rfl, hg, hb', hn, hm, hs, ht⟩
  · exact ownV_nil
  · exact ownV_mk hg (by rw [hb g rfl]; exact hb') hn hm hs ht
theorem ownV_lt (h : ownV B e w v xs) : ∀ g, v.ownBlock = some g → B ≤ g ∧ g < w.heap.size ∧ ∃ cur, w.heap[g]? = some (.cells cur e (0, 0)) := by
  intro g hg
  rcases ownV_cases h with ⟨rfl, rfl⟩ | ⟨g', cap, cur, rfl, hg', hb', _⟩
  · cases hg
  · cases hg; exact ⟨hg', blk_lt hb', _, hb'⟩
theorem ownV_below {w' : World} (h : ownV B e w v xs) (hb : Below w.heap.size w w') : ownV B e w' v xs := ownV_stay h (fun g hg => hb.block g (ownV_lt h g hg).2.1)
/-- a place stored: the row behind it -/
theorem ownV_set {w' : World} {i : Nat} {x : Value} {g : Nat} (h : ownV B e w v xs) (hi : i < xs.length) (hg : v.ownBlock = some g) (hw : ∀ cur, w.heap[g]? = some (.cells cur e (0, 0)) → w'.heap[g]? = some (.cells (cur.setIfInBounds i x) e (0, 0))) : ownV B e w' v (xs.set i x) := by
  rcases ownV_cases h with ⟨rfl, rfl⟩ | ⟨g', cap, cur, rfl, hg', hb', hn, hm, hs, ht⟩
  · simp at hi
  · cases hg
    have h1 := hw cur hb'
    have := ownV_mk (xs := xs.set i x) (cap := cap) hg' h1 (by simpa using hn) hm (by simp [hs]) (by
      rw [Array.toList_setIfInBounds, List.length_set, List.take_set, ht])
    simpa using this
theorem ia_stV {j : IntKind} {i : Nat} {x : Value} (h : ownV B e w v xs) (hi : i < xs.length) (hx : x.oneCell' = true)
    (kk : ∀ w' g, v.ownBlock = some g → ownV B e w' v (xs.set i x) → Upd g w w' → K0 w' Q) : ia 1 v (.int j (i : Int)) (fun p => st p x K0) w Q := by
  have h0 := h
  rcases ownV_cases h with ⟨rfl, rfl⟩ | ⟨g, cap, cur, rfl, hg, hb, hn, hm, hs, ht⟩
  · simp at hi
  · rw [ia_at hi]
    refine st_box hb (by omega) hx fun w' hw hu => ?_
    exact kk w' g rfl (ownV_set h0 hi rfl (fun cur' h' => by rw [hb] at h'; cases h'; exact hw)) hu
/-- one more, behind a row of the call's own -/
theorem ap_V {t : TypeId} {z x : Value} {b : Nat} (ht : slT P t e z 1 b) (hz : z.cells.size = 1) (hx : x.oneCell' = true) (hxc : x.cells = #[x]) (h : ownV B e w v xs) (h63 : xs.length + 1 ≤ maxLen) (hbytes : (xs.length + 1) * b ≤ 140737488355328) (hB : B ≤ w.heap.size)
    (kk : ∀ v' w', ownV B e w' v' (xs ++ [x]) → (∀ k, k < w.heap.size → v.ownBlock ≠ some k → w'.heap[k]? = w.heap[k]?) → w.heap.size ≤ w'.heap.size → (w'.os = w.os ∧ w'.tape = w.tape ∧ w'.output = w.output) → (∀ g, v'.ownBlock = some g → v.ownBlock = some g ∨ w.heap.size ≤ g) → K v' w' Q) :
    sm P (Instr.buildSlice t 1 #[(0, x)]) (fun u => sm P (Builtin.append_ #[t, t] t #[v, u]) K) w Q := by
  refine bsl1 ht hz hxc ?_
  have h1 : (psh w (.cells #[x] e)).ownsRow B e 1 v xs.length xs := World.ownsRow.alloc h _
  obtain ⟨i, g1, g2, g3, g4, g5⟩ := slT_info ht
  obtain ⟨v', w', hr, ho, hg, _, hf⟩ := run_append_own_at (P := P) (psh w (.cells #[x] e)) B t t e i z 1 b g1 g2 g3 g4 g5 hz (by decide) v xs.length xs h1 ⟨w.heap.size, 0, none⟩ 1 1 [x] rfl (by
    intro j u hj
    cases j with
    | zero => simp at hj; subst hj; rw [add_lit, cell_psh_new]; rfl
    | succ j => simp at hj) (by intro u hu; simp at hu; subst hu; exact hx) h63 hbytes (by rw [size_psh]; omega)
  refine ⟨v', w', hr, kk v' w' ?_ (fun k hk hne => ?_) ?_ ?_ ?_⟩
  · unfold ownV; rw [List.length_append]; exact ho
  · rw [hg.block k (by rw [size_psh]; omega) (fun e => hne e.symm), blk_psh_old hk]
  · have := hg.size; rw [size_psh] at this; omega
  · exact ⟨hg.os, hg.tape, hg.output⟩
  · intro g hgv
    rcases hf with hf | hf
    · left; rw [← hf]; exact hgv
    · right
      rw [hf, size_psh] at hgv
      cases hgv; omega
/-- one number more, behind a row of the call's own -/
theorem ap_one {t : TypeId} {k : IntKind} {l : List Int} {x : Int} {b : Nat} (ht : slT P t e (.int k 0) 1 b) (ho : ownI B e k w v l) (h63 : l.length + 1 ≤ 140737488355328) (hbytes : (l.length + 1) * b ≤ 140737488355328) (hB : B ≤ w.heap.size)
    (kk : ∀ v' w', ownI B e k w' v' (l ++ [x]) → Below B w w' → (∀ (B' : Nat) (e' : TypeId) (k' : IntKind) (u : Value) (l' : List Int), e' ≠ e → ownI B' e' k' w u l' → ownI B' e' k' w' u l') → (∀ q o, w.heap[q]? = some o → v.ownBlock ≠ some q → w'.heap[q]? = some o) → K v' w' Q) :
    sm P (Instr.buildSlice t 1 #[(0, .int k x)]) (fun u => sm P (Builtin.append_ #[t, t] t #[v, u]) K) w Q := by
  refine bsl1 ht rfl rfl ?_
  have ho1 := ownI_psh ho (.cells #[.int k x] e)
  have hb1 := b_psh w (.cells #[.int k x] e)
  refine ap_rd (b := b) (m := [x]) ht ho1 (.inr ⟨⟨w.heap.size, 0, none⟩, 1, rfl, fun i hi => ?_⟩) (by simpa using hbytes) (by simpa using h63) (by rw [size_psh]; omega) ?_
  · have : i = 0 := by simpa using hi
    subst this
    rw [add_lit, cell_psh_new]; rfl
  · intro v' w' ho' hg
    have hq : ∀ q o, w.heap[q]? = some o → v.ownBlock ≠ some q → w'.heap[q]? = some o := by
      intro q o hqo hne
      rw [hg.block q (by rw [size_psh]; have := blk_lt hqo; omega) (fun e => hne e.symm), blk_psh_old (blk_lt hqo)]
      exact hqo
    refine kk v' w' ho' (Below_grown (bt' (Below.refl _ _) hB hb1) ho1 (by rw [size_psh]; omega) hg) ?_ hq
    intro B' e' k' u l' hne hu
    obtain ⟨h1, h2⟩ := hu
    refine ⟨h1, ?_⟩
    rcases h2 with h2 | ⟨g, cap, cur, rfl, hg', hb', rest⟩
    · exact .inl h2
    · refine .inr ⟨g, cap, cur, rfl, hg', hq g _ hb' ?_, rest⟩
      intro ev
      obtain ⟨_, h3⟩ := ho
      rcases h3 with ⟨rfl, _⟩ | ⟨g2, cap2, cur2, rfl, _, hb2, _⟩
      · cases ev
      · cases ev
        rw [hb'] at hb2
        cases hb2
        exact hne rfl
end
end Sh
end Go.Proofs.YtongpnolikkknaaDoor

namespace Go.Proofs.YtongpnolikkknaaDoor
namespace Sh
open RowKit
/-- an element's cells told by a function of it -/
def eR {α : Type} (enc : α → List Value) : RepT α := fun _ cs x => cs = enc x
theorem flat_len {α : Type} {enc : α → List Value} {n : Nat} (hn : ∀ x, (enc x).length = n) : ∀ l : List α, (l.flatMap enc).length = l.length * n
  | [] => by simp
  | x :: l => by rw [List.flatMap_cons, List.length_append, hn, flat_len hn l, List.length_cons, Nat.add_mul]; omega
theorem flat_get {α : Type} {enc : α → List Value} {n : Nat} (hn : ∀ x, (enc x).length = n) : ∀ (l : List α) (i j : Nat) (hi : i < l.length), j < n → (l.flatMap enc)[i * n + j]? = (enc l[i])[j]?
  | x :: l, 0, j, hi, hj => by
    rw [List.flatMap_cons, Nat.zero_mul, Nat.zero_add, List.getElem?_append_left (by rw [hn]; exact hj)]; rfl
  | x :: l, i + 1, j, hi, hj => by
    rw [List.flatMap_cons, List.getElem?_append_right (by rw [hn, Nat.add_mul]; omega), hn]
    have e : (i + 1) * n + j - n = i * n + j := by rw [Nat.add_mul]; omega
    rw [e, flat_get hn l i j (by simpa using hi) hj]
    rfl
/-- the elements, the call's own -/
def ownE {α : Type} (B : Nat) (e : TypeId) (n : Nat) (enc : α → List Value) (w : World) (v : Value) (l : List α) : Prop := w.ownsRow B e n v l.length (l.flatMap enc)
section
variable {α : Type} {enc : α → List Value} {n : Nat} {P : Program} {w : World} {Q : Value → World → Prop} {K : Value → M} {B : Nat} {e : TypeId} {v : Value} {l : List α}
theorem ownE_below {w' : World} (h : ownE B e n enc w v l) (hb : Below w.heap.size w w') : ownE B e n enc w' v l := by
  obtain ⟨h1, h2⟩ := h
  refine ⟨h1, ?_⟩
  rcases h2 with h2 | ⟨g, cap, cur, h3, hg, hb', rest⟩
  · exact .inl h2
  · exact .inr ⟨g, cap, cur, h3, hg, stay hb hb', rest⟩
theorem ownE_weak {B' : Nat} (h : ownE B e n enc w v l) (hB : B' ≤ B) : ownE B' e n enc w v l := by
  obtain ⟨h1, h2⟩ := h
  refine ⟨h1, ?_⟩
  rcases h2 with h2 | ⟨g, cap, cur, h3, hg, rest⟩
  · exact .inl h2
  · exact .inr ⟨g, cap, cur, h3, Nat.le_trans hB hg, rest⟩
theorem ownE_blk (h : ownE B e n enc w v l) : ∀ g, v.ownBlock = some g → B ≤ g ∧ g < w.heap.size ∧ ∃ cur, w.heap[g]? = some (.cells cur e (0, 0)) := by
  intro g hg
  obtain ⟨h1, h2⟩ := h
  rcases h2 with ⟨rfl, _⟩ | ⟨g', cap, cur, rfl, hg', hb', _⟩
  · cases hg
  · cases hg; exact ⟨hg', blk_lt hb', _, hb'⟩
theorem ownE_stay {w' : World} (h : ownE B e n enc w v l) (hb : ∀ g, v.ownBlock = some g → w'.heap[g]? = w.heap[g]?) : ownE B e n enc w' v l := by
  obtain ⟨h1, h2⟩ := h
  refine ⟨h1, ?_⟩
  rcases h2 with h2 | ⟨g, cap, cur, rfl, hg, hb', rest⟩
  · exact .inl h2
  · exact .inr ⟨g, cap, cur, rfl, hg, by rw [hb g rfl]; exact hb', rest⟩
theorem ownE_rd (hn : ∀ x, (enc x).length = n) (hn0 : 0 < n) (h : ownE B e n enc w v l) : rdS n (eR enc) w v l := by
  obtain ⟨h1, h2⟩ := h
  rcases h2 with ⟨rfl, h0⟩ | ⟨g, cap, cur, rfl, hg, hb, hnc, hm, hs, ht⟩
  · exact .inl ⟨rfl, List.length_eq_zero_iff.1 h0⟩
  · refine .inr ⟨⟨g, 0, none⟩, cap, rfl, hnc, fun i hi => ⟨enc l[i], hn _, fun j u hj => ?_, rfl⟩⟩
    have hjn : j < n := by
      rcases Nat.lt_or_ge j n with c | c
      · exact c
      · rw [List.getElem?_eq_none (by rw [hn]; exact c)] at hj; cases hj
    rw [add_lit, add_lit, Nat.zero_add, cell_of_blk hb]
    have h3 : (cur.toList.take (l.length * n))[i * n + j]? = (l.flatMap enc)[i * n + j]? := by rw [ht]
    have hlt : i * n + j < l.length * n := by
      have : (i + 1) * n ≤ l.length * n := Nat.mul_le_mul_right _ hi
      rw [Nat.add_mul] at this; omega
    rw [List.getElem?_take_of_lt hlt, flat_get hn l i j hi hjn, hj] at h3
    simpa using h3
end
end Sh
end Go.Proofs.YtongpnolikkknaaDoor

namespace Go.Proofs.YtongpnolikkknaaDoor
open Sh RowKit
namespace Sh
/-- cells laid over a list's, from a place on -/
def ovl (l : List Value) (o : Nat) (cs : List Value) : List Value := l.take o ++ cs ++ l.drop (o + cs.length)
theorem ovl_len {l cs : List Value} {o : Nat} (h : o + cs.length ≤ l.length) : (ovl l o cs).length = l.length := by
  unfold ovl; simp; omega
theorem ovl_all {l cs : List Value} (h : cs.length = l.length) : ovl l 0 cs = cs := by
  unfold ovl; simp [h]
section
variable {α : Type} {enc : α → List Value} {n : Nat}
theorem flat_ovl (hn : ∀ x, (enc x).length = n) : ∀ (l : List α) (i o : Nat) (cs : List Value) (y : α) (hi : i < l.length), o + cs.length ≤ n → enc y = ovl (enc l[i]) o cs → ovl (l.flatMap enc) (i * n + o) cs = (l.set i y).flatMap enc
  | [], i, o, cs, y, hi, _, _ => by simp at hi
  | x :: l, 0, o, cs, y, hi, ho, he => by
    simp only [List.flatMap_cons, List.set_cons_zero, Nat.zero_mul, Nat.zero_add, List.getElem_cons_zero] at *
    rw [he]
    unfold ovl
    have hx := hn x
    rw [List.take_append_of_le_length (by omega), List.drop_append_of_le_length (by omega)]
    simp
  | x :: l, i + 1, o, cs, y, hi, ho, he => by
    have ih := flat_ovl hn l i o cs y (by simpa using hi) ho (by simpa using he)
    rw [List.flatMap_cons, List.set_cons_succ, List.flatMap_cons, ← ih]
    unfold ovl
    have hx := hn x
    have e1 : (i + 1) * n + o = (enc x).length + (i * n + o) := by rw [hx, Nat.add_mul]; omega
    rw [e1, List.take_length_add_append, Nat.add_assoc (enc x).length, List.drop_length_add_append]
    simp [List.append_assoc]
variable {P : Program} {w : World} {Q : Value → World → Prop} {K : Value → M} {K0 : M} {B : Nat} {e : TypeId} {v : Value} {l : List α}
/-- a row that is not empty, opened -/
theorem ownE_open (h : ownE B e n enc w v l) (hl : 0 < l.length) : ∃ g cap cur, v = .slice (some ⟨g, 0, none⟩) l.length cap ∧ v.ownBlock = some g ∧ B ≤ g ∧ w.heap[g]? = some (.cells cur e (0, 0)) ∧ l.length ≤ cap ∧ cap ≤ maxLen ∧ cur.size = cap * n ∧ cur.toList.take (l.length * n) = l.flatMap enc := by
  obtain ⟨h1, h2⟩ := h
  rcases h2 with ⟨rfl, h0⟩ | ⟨g, cap, cur, rfl, hg, hb, hn, hm, hs, ht⟩
  · omega
  · exact ⟨g, cap, cur, rfl, rfl, hg, hb, hn, hm, hs, ht⟩
theorem ovl_take {l cs : List Value} {o m : Nat} (h : o + cs.length ≤ m) (hm : m ≤ l.length) : (ovl l o cs).take m = ovl (l.take m) o cs := by
  unfold ovl
  have e1 : (l.take o ++ cs).length = o + cs.length := by simp; omega
  rw [List.take_append, List.take_of_length_le (by omega), e1, List.take_take, List.drop_take, Nat.min_eq_left (by omega)]
theorem ownE_put {w' : World} {i o : Nat} {cs : List Value} {y : α} (hn : ∀ x, (enc x).length = n) (h : ownE B e n enc w v l) (hi : i < l.length) (ho : o + cs.length ≤ n) (he : enc y = ovl (enc l[i]) o cs)
    (hw : ∀ g cur, v.ownBlock = some g → w.heap[g]? = some (.cells cur e (0, 0)) → ∃ cur', w'.heap[g]? = some (.cells cur' e (0, 0)) ∧ cur'.toList = ovl cur.toList (i * n + o) cs) : ownE B e n enc w' v (l.set i y) := by
  obtain ⟨g, cap, cur, rfl, hob, hg, hb, hc, hm, hs, ht⟩ := ownE_open h (by omega)
  obtain ⟨cur', h1, h2⟩ := hw g cur rfl hb
  have hin : i * n + n ≤ l.length * n := by
    have := Nat.mul_le_mul_right n (show i + 1 ≤ l.length by omega)
    rw [Nat.add_mul, Nat.one_mul] at this; exact this
  have hcap : l.length * n ≤ cap * n := Nat.mul_le_mul_right n hc
  have hsl : cur.toList.length = cap * n := by simpa using hs
  refine ⟨by rw [flat_len hn], .inr ⟨g, cap, cur', by rw [List.length_set], hg, h1, by rw [List.length_set]; exact hc, hm, ?_, ?_⟩⟩
  · have := congrArg List.length h2
    rw [ovl_len (by omega)] at this
    simpa [hs] using this
  · rw [List.length_set, h2, ovl_take (by omega) (by omega), ht, flat_ovl hn l i o cs y hi ho he]
theorem ia_E {g cap L i n : Nat} {j : IntKind} (hi : i < L) : ia n (.slice (some ⟨g, 0, none⟩) L cap) (.int j (i : Int)) K w Q = K (.pointer (some ⟨g, i * n, none⟩)) w Q := by
  rw [ia_e, Int.toNat_natCast, add_lit, Nat.zero_add]
  apply propext
  constructor
  · rintro ⟨_, _, h⟩; exact h
  · intro h; exact ⟨by omega, by omega, h⟩
/-- some cells of a block stored -/
theorem stn_at {b o m : Nat} {c cs : Array Value} {t : TypeId} (h : w.heap[b]? = some (.cells c t (0, 0))) (hm : cs.size = m) (hc : o + m ≤ c.size) (h1 : ∀ v ∈ cs.toList, v.oneCell' = true)
    (k : ∀ w' c', w'.heap[b]? = some (.cells c' t (0, 0)) → c'.toList = ovl c.toList o cs.toList → Upd b w w' → K0 w' Q) : stn m (.pointer (some ⟨b, o, none⟩)) (.agg cs) K0 w Q := by
  obtain ⟨w', c', e1, e2, e3, e4⟩ := sts_blk (o := o) cs.toList 0 w c h (by simpa [hm] using hc) h1
  exact ⟨_, cs, w', rfl, rfl, hm, e1, k w' c' e2 (by rw [e3]; rfl) e4⟩
theorem ia_stnE {j : IntKind} {i : Nat} {y : α} (hn : ∀ x, (enc x).length = n) (h1 : ∀ x, ∀ c ∈ enc x, c.oneCell' = true) (h : ownE B e n enc w v l) (hi : i < l.length)
    (kk : ∀ w' g, v.ownBlock = some g → ownE B e n enc w' v (l.set i y) → Upd g w w' → K0 w' Q) : ia n v (.int j (i : Int)) (fun p => stn n p (.agg (enc y).toArray) K0) w Q := by
  obtain ⟨g, cap, cur, rfl, hob, hg, hb, hc, hm, hs, ht⟩ := ownE_open h (by omega)
  rw [ia_E hi]
  have hcs : i * n + n ≤ cur.size := by
    rw [hs]
    have := Nat.mul_le_mul_right n (show i + 1 ≤ cap by omega)
    rw [Nat.add_mul, Nat.one_mul] at this; exact this
  refine stn_at hb (by simpa using hn y) hcs (by simpa using h1 y) fun w' c' q1 q2 q3 => kk w' g rfl ?_ q3
  refine ownE_put (o := 0) (cs := enc y) hn h hi (by rw [hn]; omega) (by rw [ovl_all (by rw [hn, hn])]) (fun g' cur' e1 e2 => ?_)
  cases e1
  rw [hb] at e2; cases e2
  exact ⟨c', q1, by simpa using q2⟩
/-- a new row of noughts -/
theorem made_eq {m : Nat} {c : Value} (hm : 0 < m) : ∀ k, (madeCells (Array.replicate m c) k).toList = List.replicate k c := by
  intro k
  apply List.ext_getElem
  · simp [madeCells]
  · intro i h1 h2
    have : i % m < m := Nat.mod_lt _ hm
    simp [madeCells, this]
theorem mkE {t : TypeId} {z c : Value} {j j' : IntKind} {b k : Nat} {x : α} (ht : slT P t e z n b) (hz : z.cells = Array.replicate n c) (hn0 : 0 < n) (hx : enc x = List.replicate n c) (hb : b * k ≤ 281474976710656) (hk : k ≤ 281474976710656) (hB : B ≤ w.heap.size)
    (kk : ∀ w' v', v' = .slice (some ⟨w.heap.size, 0, none⟩) k k → ownE B e n enc w' v' (List.replicate k x) → Below w.heap.size w w' → K v' w' Q) : sm P (Instr.makeSlice t (.int j (k : Int)) (.int j' (k : Int))) K w Q := by
  obtain ⟨i, g1, g2, g3, g4, g5⟩ := slT_info ht
  obtain ⟨w', hr, ho, hg⟩ := run_make_full (P := P) w B t e i z n g1 g2 g3 g4 j j' k (by rw [g5]; exact hb) (by unfold maxLen; omega) hB
  refine ⟨_, w', hr, kk w' _ rfl ?_ ((Below.refl _ _).grown hg (Nat.le_refl _) (fun k hk => by cases hk))⟩
  unfold ownE
  rw [List.length_replicate]
  have : (List.replicate k x).flatMap enc = (madeCells z.cells (k * n)).toList := by
    rw [hz, made_eq hn0, List.flatMap_replicate, hx, List.flatten_replicate_replicate]
  rw [this]
  exact ho
theorem run_copy_str {dT sT ty elem : TypeId} {g o dLen dCap : Nat} {s : ByteArray} {cur : Array Value} {t : TypeId} (hu : P.underlying dT = some (.slice elem)) (hs : (P.info? elem).map (·.size) = some 1)
    (hg : w.heap[g]? = some (.cells cur t (0, 0))) (hle : s.size ≤ dLen) (hfit : o + s.size ≤ cur.size) :
    (Builtin.copy_ #[dT, sT] ty #[.slice (some ⟨g, o, none⟩) dLen dCap, .string s]).run P w = .ok (.int .i64 s.size) (w.setRow g (ovl cur.toList o ((byL s).map (.int .u8))).toArray) := by
  have hc : (Builtin.firstCells 1 s.size (.string s)).run P w = .ok ((byL s).map (Value.int .u8)).toArray w := by
    have : s.extract 0 s.size = s := ByteArray.extract_zero_size
    simp only [Builtin.firstCells, this, Sem.run_pure, byL]
    congr 1
    apply Array.ext'
    simp [Function.comp_def]
  have hl : ((byL s).map (Value.int .u8)).length = s.size := by rw [List.length_map, byL_len]
  have hst := run_storeCells_at P g o t ((byL s).map (Value.int .u8)) 0 cur w hg (by rw [hl]; simpa using hfit) (by intro v hv; obtain ⟨a, _, rfl⟩ := List.mem_map.1 hv; rfl)
  have hmin : Nat.min s.size dLen = s.size := Nat.min_eq_left hle
  cases hq : P.info? elem with
  | none => simp [hq] at hs
  | some i =>
    have hi : i.size = 1 := by simpa [hq] using hs
    simp only [Nat.add_zero] at hst
    simp [Builtin.copy_, run_underlying hu, Builtin.lenOf, sizeOf, typeInfo, hq, hi, hmin, hc, hst, goInt, ovl, Result.andThen]
theorem Upd_setRow {g : Nat} {c cs : Array Value} {t : TypeId} {fr : Nat × Nat} (h : w.heap[g]? = some (.cells c t fr)) : Upd g w (w.setRow g cs) ∧ (w.setRow g cs).heap[g]? = some (.cells cs t fr) :=
  ⟨⟨rfl, rfl, rfl, by simp [World.setRow], fun k hk => setRow_other w g k cs hk⟩, setRow_heap w g c cs t fr h⟩
end
end Sh
end Go.Proofs.YtongpnolikkknaaDoor

namespace Go.Proofs.YtongpnolikkknaaDoor
namespace Sh
open RowKit
section
variable {P : Program} {w : World} {e t : TypeId} {k : IntKind} {n : Nat} {xa0 xb0 : List Int}
/-- an element's place and value, in whatever world -/
theorem rdI_at {v : Value} {l : List Int} (h : rdI k w v l) {i : Nat} (hi : i < l.length) : ∃ a : Addr, w.cell? a = some (.int k l[i]) ∧ ∀ (j : IntKind) (K : Value → M) (w' : World) (Q : Value → World → Prop), ia 1 v (.int j (i : Int)) K w' Q = K (.pointer (some a)) w' Q := by
  obtain ⟨p, c, rfl, h⟩ := h
  obtain ⟨a, rfl, hc⟩ := h i hi
  refine ⟨a.add i, hc, fun j K w' Q => ?_⟩
  rw [ia_e, Int.toNat_natCast, Nat.mul_one]
  apply propext
  constructor
  · rintro ⟨_, _, h⟩; exact h
  · intro h; exact ⟨by omega, by omega, h⟩
end
end Sh
end Go.Proofs.YtongpnolikkknaaDoor

namespace Go.Proofs.YtongpnolikkknaaDoor
namespace Srt
/-- an order that is total; ties stay -/
structure Ord {β : Type} (le : β → β → Bool) : Prop where
  total : ∀ a b, le a b = true ∨ le b a = true
  trans : ∀ a b c, le a b = true → le b c = true → le a c = true
section
variable {β : Type} {le : β → β → Bool}
/-- one is ahead of the other -/
def slt (le : β → β → Bool) (x y : β × Nat) : Prop := le x.1 y.1 = true ∧ (le y.1 x.1 = false ∨ x.2 < y.2)
/-- sorted -/
abbrev Sd (le : β → β → Bool) (l : List (β × Nat)) : Prop := l.Pairwise (slt le)
/-- places of one below those of the other -/
abbrev Pl (l m : List (β × Nat)) : Prop := ∀ x ∈ l, ∀ y ∈ m, x.2 < y.2
/-- runs of so many, the last one shorter -/
inductive Rn (le : β → β → Bool) (bs : Nat) : List (β × Nat) → Prop
  | last {S : List (β × Nat)} : Sd le S → S.length < bs → Rn le bs S
  | cons {B L : List (β × Nat)} : Sd le B → B.length = bs → Pl B L → Rn le bs L → Rn le bs (B ++ L)
/-- runs that whatever runs may follow -/
def Pre (le : β → β → Bool) (bs : Nat) (D : List (β × Nat)) : Prop := ∀ T, Rn le bs T → Pl D T → Rn le bs (D ++ T)
end
section
variable {β γ : Type} {le : β → β → Bool} {le' : γ → γ → Bool} {f : γ → β}
end
end Srt
end Go.Proofs.YtongpnolikkknaaDoor

namespace Go.Proofs.YtongpnolikkknaaDoor
namespace Sh
open RowKit Srt
/-- a block g of elements, n cells each -/
structure BkAt {β : Type} (e : TypeId) (enc : β → List Value) (Mm : β → Prop) (rest : List Value) (g : Nat) (w : World) (L : List (β × Nat)) : Prop where
  blk : w.heap[g]? = some (.cells ((L.flatMap fun x => enc x.1) ++ rest).toArray e (0, 0))
  mem : ∀ x ∈ L, Mm x.1
section
variable {β : Type} {e : TypeId} {enc : β → List Value} {Mm : β → Prop} {rest : List Value} {g n c N : Nat} {w : World} {L : List (β × Nat)} {Q : Value → World → Prop} {K : Value → M} {K0 : M} {k : IntKind} {i : Nat}
theorem BkAt.below {w' : World} (h : BkAt e enc Mm rest g w L) (hb : Below w.heap.size w w') : BkAt e enc Mm rest g w' L := ⟨stay hb h.blk, h.mem⟩
theorem BkAt.drw (h : BkAt e enc Mm rest g w L) : BkAt e enc Mm rest g (drw w) L := ⟨h.blk, h.mem⟩
theorem BkAt.cells (h : BkAt e enc Mm rest g w L) (hn : ∀ x, (enc x).length = n) (hi : i < L.length) : cellsAt w ⟨g, i * n, none⟩ (enc L[i].1) := by
  intro j u hj
  have hjn : j < n := by
    rcases Nat.lt_or_ge j n with c | c
    · exact c
    · rw [List.getElem?_eq_none (by rw [hn]; exact c)] at hj; cases hj
  rw [add_lit, cell_of_blk h.blk]
  have hlt : i * n + j < (L.flatMap fun x => enc x.1).length := by
    rw [flat_len (enc := fun x : β × Nat => enc x.1) (fun x => hn x.1)]
    have : (i + 1) * n ≤ L.length * n := Nat.mul_le_mul_right _ hi
    rw [Nat.add_mul] at this; omega
  rw [List.getElem?_toArray, List.getElem?_append_left hlt, flat_get (enc := fun x : β × Nat => enc x.1) (fun x => hn x.1) L i j hi hjn, hj]
theorem ia_bk {N : Nat} (hi : i < N) : ia n (.slice (some ⟨g, 0, none⟩) N c) (.int k (i : Int)) K w Q = K (.pointer (some ⟨g, i * n, none⟩)) w Q := by
  rw [ia_e, Int.toNat_natCast, add_lit, Nat.zero_add]
  apply propext
  exact ⟨fun h => h.2.2, fun h => ⟨by omega, by omega, h⟩⟩
/-- one read -/
theorem get_of {x : β × Nat} (hx : L[i]? = some x) : ∃ h : i < L.length, L[i] = x := by
  rcases Nat.lt_or_ge i L.length with c | c
  · rw [List.getElem?_eq_getElem c] at hx; exact ⟨c, Option.some.inj hx⟩
  · rw [List.getElem?_eq_none c] at hx; cases hx
theorem rdN {x : β × Nat} (h : BkAt e enc Mm rest g w L) (hN : L.length = N) (hn : ∀ x, (enc x).length = n) (h1 : ∀ x, ∀ v ∈ enc x, v.oneCell' = true) (hx : L[i]? = some x) (kk : K (.agg (enc x.1).toArray) w Q) : ia n (.slice (some ⟨g, 0, none⟩) N c) (.int k (i : Int)) (fun p => ldn n p K) w Q := by
  obtain ⟨hi, rfl⟩ := get_of hx
  rw [ia_bk (by omega)]
  exact ldn_at (h.cells hn hi) (hn _) kk
end
end Sh
end Go.Proofs.YtongpnolikkknaaDoor

namespace Go.Proofs.YtongpnolikkknaaDoor
open Sh RowKit Go.MapKept
def kI : Int → Value := fun i => .int .i64 i
end Go.Proofs.YtongpnolikkknaaDoor

set_option maxRecDepth 20000
namespace Go.Proofs.YtongpnolikkknaaDoor
open Sh RowKit Go.MapKept
abbrev pv (b : Nat) : Value := .pointer (some ⟨b, 0, none⟩)
abbrev Sct := { x : ByteArray // x.size = 64 }
def encS (x : Sct) : List Value := (byL x.1).map (.int .u8)
theorem encS_len (x : Sct) : (encS x).length = 64 := by unfold encS; rw [List.length_map, byL_len, x.2]
theorem encS_one (x : Sct) : ∀ c ∈ encS x, c.oneCell' = true := by intro c hc; obtain ⟨a, _, rfl⟩ := List.mem_map.1 hc; rfl
def padL (s : ByteArray) : List Int := (byL s).take 64 ++ List.replicate (64 - s.size) 0
theorem padL_len (s : ByteArray) : (padL s).length = 64 := by unfold padL; rw [List.length_append, List.length_take, List.length_replicate, byL_len]; omega
theorem padL_nn (s : ByteArray) : ∀ x ∈ padL s, 0 ≤ x ∧ x ≤ 255 := by
  intro x hx
  unfold padL at hx
  rcases List.mem_append.1 hx with h | h
  · exact byL_nn (List.mem_of_mem_take h)
  · rw [List.eq_of_mem_replicate h]; omega
def pad (s : ByteArray) : Sct := ⟨strOfNums (padL s), by rw [son_size, padL_len]⟩
theorem byL_pad (s : ByteArray) : byL (pad s).1 = padL s := byL_son (padL_nn s)
theorem encS_pad (s : ByteArray) : encS (pad s) = (padL s).map (.int .u8) := by unfold encS; rw [byL_pad]
/-- some of the one, the rest of the other -/
def torn (x s : Sct) (c : Nat) : Sct := ⟨strOfNums ((byL x.1).take c ++ (byL s.1).drop c), by
  rw [son_size, List.length_append, List.length_take, List.length_drop, byL_len, byL_len, x.2, s.2]; omega⟩
structure Sec where
  s : Sct
  u : Option Sct
def Sec.now (x : Sec) : Sct := x.u.getD x.s
structure Dv where
  A : List Sec
  c : Int
  h : Int
/-- sector i, if there is one -/
def Dv.at (D : Dv) (i : Int) : Option Sec := if 0 ≤ i then D.A[i.toNat]? else none
def Dv.tick (D : Dv) : Dv := { D with c := D.c + 1 }
def Dv.rd (D : Dv) (i : Int) : ByteArray := ((D.at i).map (·.now.1)).getD ⟨#[]⟩
def Dv.set (D : Dv) (i : Nat) (x : Sec) : Dv := { D with A := D.A.set i x }
def Dv.wr (D : Dv) (i : Int) (s : ByteArray) : Int × Dv :=
  if D.h < D.c + 1 then (9, D.tick) else match D.at i with
  | none => (7, D.tick)
  | some x => if 64 < s.size then (3, D.tick) else (0, D.tick.set i.toNat ⟨x.s, some (pad s)⟩)
def Dv.sync (D : Dv) : Int × Dv := if D.h < D.c + 1 then (9, D.tick) else (0, { D.tick with A := D.A.map fun x => ⟨x.now, none⟩ })
/-- the sectors that aren't sure -/
def uns (A : List Sec) : List Nat := (List.range A.length).filter fun i => ((A[i]?).bind (·.u)).isSome
/-- what is behind a crash, of the k-th that isn't sure -/
def nw (keep : List Bool) (tn cut : Int) (x : Sec) (k : Nat) : Sct :=
  if (k : Int) = tn then torn x.now x.s (min (max cut 0) 64).toNat else if keep[k % keep.length]? = some true then x.now else x.s
/-- the k-th that isn't sure, sector i (f: what is kept of what isn't sure) -/
def crash1 (f : Option Sct → Option Sct) (keep : List Bool) (tn cut : Int) (A : List Sec) (i k : Nat) : List Sec := match A[i]? with
  | none => A
  | some x => A.set i ⟨nw keep tn cut x k, f x.u⟩
def crashL (f : Option Sct → Option Sct) (keep : List Bool) (tn cut : Int) : List Sec → List Nat → Nat → List Sec
  | A, [], _ => A
  | A, i :: r, k => crashL f keep tn cut (crash1 f keep tn cut A i k) r (k + 1)
def Dv.crash (D : Dv) (keep : List Bool) (tn cut : Int) : Dv := { D with A := crashL (fun _ => none) keep tn cut D.A (uns D.A) 0, h := 4611686018427387904 }
def newD (n : Nat) : Dv := ⟨List.replicate n ⟨pad ⟨#[]⟩, none⟩, 0, 4611686018427387904⟩
/-- a device in memory -/
structure DevAt (B : Nat) (w : World) (p : Nat) (v : Value) (b : Nat) (D : Dv) : Prop where
  pB : B ≤ p
  bB : B ≤ b
  n : D.A.length ≤ 4096
  hp : w.heap[p]? = some (.cells #[v, .map (some b), .int .i64 D.c, .int .i64 D.h] 108 (0, 0))
  own : ownE B 113 64 encS w v (D.A.map (·.s))
  mp : ∃ L : List (Int × Sct), MapAt kI w b (L.map fun q => (q.1, .agg (encS q.2).toArray)) ∧ ∀ i x, (i, x) ∈ L ↔ (D.at i).bind (·.u) = some x
def fpD (p : Nat) (v : Value) (b : Nat) : Nat → Prop := fun k => k = p ∨ k = b ∨ v.ownBlock = some k
section
variable {B : Nat} {w w' : World} {p b : Nat} {v : Value} {D : Dv}
theorem DevAt.c0 (h : DevAt B w p v b D) : w.cell? ⟨p, 0, none⟩ = some v := by rw [cell_of_blk h.hp]; rfl
theorem DevAt.c1 (h : DevAt B w p v b D) : w.cell? ⟨p, 1, none⟩ = some (.map (some b)) := by rw [cell_of_blk h.hp]; rfl
theorem DevAt.c2 (h : DevAt B w p v b D) : w.cell? ⟨p, 2, none⟩ = some (.int .i64 D.c) := by rw [cell_of_blk h.hp]; rfl
theorem DevAt.c3 (h : DevAt B w p v b D) : w.cell? ⟨p, 3, none⟩ = some (.int .i64 D.h) := by rw [cell_of_blk h.hp]; rfl
theorem DevAt.plt (h : DevAt B w p v b D) : p < w.heap.size := blk_lt h.hp
theorem DevAt.below (h : DevAt B w p v b D) (hb : Below w.heap.size w w') : DevAt B w' p v b D := by
  obtain ⟨L, hm, hl⟩ := h.mp
  exact ⟨h.pB, h.bB, h.n, stay hb h.hp, ownE_below h.own hb, L, hm.below hb, hl⟩
theorem DevAt.drw (h : DevAt B w p v b D) : DevAt B (drw w) p v b D := ⟨h.pB, h.bB, h.n, h.hp, h.own, h.mp⟩
theorem DevAt.len (h : DevAt B w p v b D) : ∃ a c, v = .slice a D.A.length c := by
  obtain ⟨h1, h2⟩ := h.own
  rcases h2 with ⟨rfl, h0⟩ | ⟨g, cap, cur, rfl, _⟩
  · rw [List.length_map] at h0; exact ⟨none, 0, by rw [h0]⟩
  · exact ⟨some ⟨g, 0, none⟩, cap, by rw [List.length_map]⟩
theorem DevAt.gblk (h : DevAt B w p v b D) : ∀ g, v.ownBlock = some g → g ≠ p ∧ g ≠ b ∧ B ≤ g ∧ g < w.heap.size := by
  intro g hg
  obtain ⟨h1, h2, cur, h3⟩ := ownE_blk h.own g hg
  obtain ⟨L, ⟨es, clock, hm, _⟩, _⟩ := h.mp
  refine ⟨?_, ?_, h1, h2⟩
  · rintro rfl; rw [h.hp] at h3; cases h3
  · rintro rfl; rw [hm] at h3; cases h3
theorem DevAt.pb (h : DevAt B w p v b D) : p ≠ b := by
  obtain ⟨L, ⟨es, clock, hm, _⟩, _⟩ := h.mp
  rintro rfl; rw [h.hp] at hm; cases hm
/-- one of its own cells stored -/
theorem DevAt.upd {D' : Dv} (h : DevAt B w p v b D) (hA : D'.A = D.A) (hp : w'.heap[p]? = some (.cells #[v, .map (some b), .int .i64 D'.c, .int .i64 D'.h] 108 (0, 0))) (hu : Upd p w w') : DevAt B w' p v b D' := by
  obtain ⟨L, hm, hl⟩ := h.mp
  refine ⟨h.pB, h.bB, by rw [hA]; exact h.n, hp, by rw [hA]; exact ownE_stay h.own (fun g hg => hu.block g (h.gblk g hg).1), L, hm.upd hu h.pb.symm, fun i x => ?_⟩
  rw [hl]
  unfold Dv.at
  rw [hA]
theorem fpD_B (h : DevAt B w p v b D) : ∀ k, fpD p v b k → B ≤ k := by
  rintro k (rfl | rfl | hk)
  · exact h.pB
  · exact h.bB
  · exact (h.gblk k hk).2.2.1
end
end Go.Proofs.YtongpnolikkknaaDoor

set_option maxRecDepth 20000
namespace Go.Proofs.YtongpnolikkknaaDoor
open Sh RowKit Go.MapKept
theorem sl61 : slT Tryd.prog 66 5 (.int .u8 0) 1 1 := ⟨by kernel_rfl, by kernel_rfl⟩
theorem sl57 : slT Tryd.prog 105 113 (.agg (Array.replicate 64 (.int .u8 0))) 64 64 := ⟨by kernel_rfl, by kernel_rfl⟩
theorem sl29 : slT Tryd.prog 22 3 (.int .i64 0) 1 8 := ⟨by kernel_rfl, by kernel_rfl⟩
theorem str9 : isStr Tryd.prog 9 = true := by kernel_rfl
theorem ud5 : Tryd.prog.underlying 5 = some (.int .u8) := by kernel_rfl
theorem pt23 : Tryd.prog.underlying 58 = some (.pointer (Tryd.prog.pointee 58)) := by kernel_rfl
theorem KK : KeyK Tryd.prog 106 3 113 (.int .i64) kI := ⟨by kernel_rfl, by kernel_rfl, fun a => by simp [kI, IsKey], fun a b h => by simpa [kI] using h⟩
theorem z63 : zeroIs Tryd.prog 113 (.agg (Array.replicate 64 (.int .u8 0))) := by unfold zeroIs; kernel_rfl
/-- a sector of noughts -/
theorem encS_nil : encS (pad ⟨#[]⟩) = List.replicate 64 (.int .u8 0) := by
  rw [encS_pad]
  unfold padL
  rw [byL_nil, List.take_nil, List.nil_append, List.map_replicate]
  rfl
section
variable {w : World} {Q : Value → World → Prop}
/-- how many sectors -/
theorem f39_s {B p b : Nat} {v : Value} {D : Dv} (hd : DevAt B w p v b D) (h : Q (.int .i64 (D.A.length : Nat)) w) : f39 (pv p) w Q := by
  unfold f39
  obtain ⟨a, c, hv⟩ := hd.len
  have c0 := hd.c0
  rw [hv] at c0
  rw [pn_eq pt23]
  simp only [↓reduceIte, ↓LL, LM, Value.cells, Nat.reduceAdd, Option.some.injEq, exists_eq_left', decide_true, decide_false, if_true, if_false, reduceCtorEq, cond_true, cond_false, Option.isNone, c0]
  exact h
/-- a call counted -/
theorem f72_s {B p b : Nat} {v : Value} {D : Dv} (hd : DevAt B w p v b D) (h0 : 0 ≤ D.c) (h1 : D.c ≤ 1000000) (h : ∀ w', DevAt B w' p v b D.tick → Upd p w w' → Q (.int .i64 (if D.h < D.c + 1 then 9 else 0)) w') : f72 (pv p) w Q := by
  unfold f72
  have c2 := hd.c2
  have e : IntKind.i64.wrap (D.c + 1) = D.c + 1 := w64 (by omega) (by omega)
  rw [pn_eq pt23]
  simp only [↓reduceIte, ↓LL, LM, Value.cells, Nat.reduceAdd, Option.some.injEq, exists_eq_left', decide_true, decide_false, if_true, if_false, reduceCtorEq, cond_true, cond_false, Option.isNone, c2, e]
  refine st_box hd.hp (o := 2) (v := .int .i64 (D.c + 1)) (by simp) rfl fun w1 h1 hu => ?_
  have d1 : DevAt B w1 p v b D.tick := hd.upd rfl h1 hu
  have k2 := d1.c2
  have k3 := d1.c3
  have e2 : D.tick.c = D.c + 1 := rfl
  have e3 : D.tick.h = D.h := rfl
  rw [e2] at k2
  rw [e3] at k3
  simp only [↓reduceIte, ↓LL, LM, Value.cells, Nat.reduceAdd, Option.some.injEq, exists_eq_left', decide_true, decide_false, if_true, if_false, reduceCtorEq, cond_true, cond_false, k2, k3]
  by_cases c : D.h < D.c + 1
  · simp only [↓reduceIte, ↓LL, LM, Value.cells, Nat.reduceAdd, Option.some.injEq, exists_eq_left', decide_true, decide_false, if_true, if_false, reduceCtorEq, cond_true, cond_false, c]
    have := h (drw w1) d1.drw ⟨hu.os, hu.tape, hu.output, hu.size, hu.block⟩
    rw [if_pos c] at this
    exact this
  · simp only [↓reduceIte, ↓LL, LM, Value.cells, Nat.reduceAdd, Option.some.injEq, exists_eq_left', decide_true, decide_false, if_true, if_false, reduceCtorEq, cond_true, cond_false, c]
    have := h (drw w1) d1.drw ⟨hu.os, hu.tape, hu.output, hu.size, hu.block⟩
    rw [if_neg c] at this
    exact this
end
end Go.Proofs.YtongpnolikkknaaDoor

namespace Go.Proofs.YtongpnolikkknaaDoor
namespace Sh
open RowKit Go.MapKept
section
variable {α : Type} [DecidableEq α]
theorem lk_put {L : List (α × Value)} {k k' : α} {v : Value} : lk (put L k v) k' = if k' = k then some v else lk L k' := by
  unfold put
  split
  · rename_i h
    have gen : ∀ L : List (α × Value), lk (L.map (fun p => if p.1 = k then (k, v) else p)) k' = if k' = k then (if k ∈ L.map (·.1) then some v else none) else lk L k' := by
      intro L
      induction L with
      | nil => simp [lk]
      | cons p L ih =>
        obtain ⟨a, u⟩ := p
        rw [List.map_cons]
        by_cases ha : a = k
        · rw [if_pos ha, lk_cons, lk_cons, ih]
          by_cases hk : k' = k
          · subst hk; simp [ha]
          · have : ¬ k = k' := fun e => hk e.symm
            have h2 : ¬ a = k' := fun e => hk (by rw [← e, ha])
            simp [hk, this, h2]
        · rw [if_neg ha, lk_cons, lk_cons, ih]
          by_cases hk : k' = k
          · subst hk
            have h2 : ¬ k' = a := fun e => ha e.symm
            have h3 : (k' ∈ List.map (fun x => x.1) ((a, u) :: L)) ↔ (k' ∈ List.map (fun x => x.1) L) := by
              rw [List.map_cons, List.mem_cons]
              exact ⟨fun h => h.resolve_left h2, .inr⟩
            rw [if_neg ha, if_pos rfl, if_pos rfl]
            by_cases h4 : k' ∈ List.map (fun x => x.1) L
            · rw [if_pos h4, if_pos (h3.2 h4)]
            · rw [if_neg h4, if_neg (fun e => h4 (h3.1 e))]
          · simp [hk]
    rw [gen, if_pos h]
  · rename_i h
    have gen : ∀ L : List (α × Value), lk (L ++ [(k, v)]) k' = (lk L k').or (if k' = k then some v else none) := by
      intro L
      induction L with
      | nil =>
        rw [List.nil_append, lk_cons]
        by_cases hk : k' = k
        · subst hk; simp [lk]
        · have : ¬ k = k' := fun e => hk e.symm
          simp [lk, hk, this]
      | cons p L ih =>
        obtain ⟨a, u⟩ := p
        rw [List.cons_append, lk_cons, lk_cons, ih]
        split <;> simp
    rw [gen]
    by_cases hk : k' = k
    · subst hk
      have : lk L k' = none := lk_none.2 fun p hp e => h (e ▸ List.mem_map.2 ⟨p, hp, rfl⟩)
      simp [this]
    · simp [hk]
end
theorem cf_p {w : World} {Q : Value → World → Prop} {P : Program} {f : FuncId} {z cap args : Array Value} {K : Value → M} (he : ∀ args w, (callFunc f args).run P w = .ok (.enter f args) w) (h : Calls P f (z ++ args ++ cap) w (Rt fun v w' => K v w' Q)) : cf P (.func (.func f) z cap) args K w Q :=
  ⟨f, z, cap, rfl, he _ _, h⟩
theorem cc_of {P : Program} {f : FuncId} {args : Array Value} {K : Value → M} {w : World} {Q : Value → World → Prop} {R : Ending → World → Prop} (h : Calls P f args w R) (hR : ∀ e w', R e w' → ∃ v, e = .returned v ∧ K v w' Q) : cc P f args K w Q :=
  Calls.mono h fun e w' he => by obtain ⟨v, rfl, hk⟩ := hR e w' he; exact hk
end Sh
end Go.Proofs.YtongpnolikkknaaDoor

set_option maxRecDepth 20000
set_option maxHeartbeats 4000000
namespace Go.Proofs.YtongpnolikkknaaDoor
open Sh RowKit Go.MapKept
def zs (n : Nat) : ByteArray := strOfNums (List.replicate n 0)
theorem byL_zs (n : Nat) : byL (zs n) = List.replicate n 0 := byL_son fun x hx => by rw [(List.mem_replicate.1 hx).2]; decide
theorem zs_size (n : Nat) : (zs n).size = n := by rw [← byL_len, byL_zs, List.length_replicate]
theorem repL (n : Nat) : (⟨(Lib.repeatL (⟨#[0]⟩ : ByteArray).data.toList n).toArray⟩ : ByteArray) = zs n := by
  apply byL_inj
  rw [byL_zs]
  unfold byL
  have : ∀ n, Lib.repeatL (⟨#[0]⟩ : ByteArray).data.toList n = List.replicate n 0 := by
    intro n
    induction n with
    | zero => rfl
    | succ n ih => show [0] ++ Lib.repeatL _ n = _; rw [ih, List.replicate_succ]; rfl
  rw [this]
  simp
/-- a text's beginning, whole -/
theorem pad_of {l : List Int} (hl : l.length ≤ 64) (hb : ∀ x ∈ l, 0 ≤ x ∧ x ≤ 255) : strOfNums l ++ zs (64 - l.length) = (pad (strOfNums l)).1 := by
  apply byL_inj
  rw [byL_app, byL_son hb, byL_zs, byL_pad]
  unfold padL
  rw [byL_son hb, son_size, List.take_of_length_le hl]
def rightB (l : List Int) : Bool := decide (l.Nodup ∧ ∀ x ∈ l, 0 ≤ x ∧ x ≤ 65535)
theorem KKi : KeyK Tryd.prog 118 3 3 (.int .i64) kI := ⟨by kernel_rfl, by kernel_rfl, fun a => by simp [kI, IsKey], fun a b h => by simpa [kI] using h⟩
theorem z3 : zeroIs Tryd.prog 3 (.int .i64 0) := by unfold zeroIs; kernel_rfl
theorem wd2 : wd 2 = 2 := rfl
section
variable {w : World} {Q : Value → World → Prop}
theorem rep_s {n : Nat} {K : Value → M} (hn : n ≤ 1000) (kk : ∀ w', Below w.heap.size w w' → K (.string (zs n)) w' Q) : cc Tryd.prog 78 #[.string ⟨#[0]⟩, .int .i64 (n : Int)] K w Q := by
  refine cc_of (Tryd.strings_Repeat ⟨#[0]⟩ n w (by omega) (by show 1 * n ≤ _; omega)) fun e w' h => ?_
  obtain ⟨h1, h2⟩ := h
  exact ⟨_, h1, by rw [repL]; exact kk w' h2⟩
theorem f50_s {v : Value} {l : List Int} (h : rdI .u8 w v l) (hl : l.length ≤ 64) (hb : ∀ x ∈ l, 0 ≤ x ∧ x ≤ 255) (kk : ∀ w', Below w.heap.size w w' → Q (.string (pad (strOfNums l)).1) w') : f50 v w Q := by
  unfold f50
  have bd : Below w.heap.size w (drw w) := ⟨rfl, rfl, rfl, Nat.le_refl _, fun _ _ => rfl⟩
  have e1 : IntKind.i64.wrap (64 - ((l.length : Nat) : Int)) = ((64 - l.length : Nat) : Int) := by rw [w64 (by omega) (by omega)]; omega
  rw [dr_q, idv_e]
  refine Eq.mpr (smr_run (run_cvb slt66 u5 st9 (rdI_below bd h))) ?_
  rw [idv_e]
  refine lnl_rd (rdI_below bd h) ?_
  try simp only [↓reduceIte, ↓LL, LM, Value.cells, Nat.reduceAdd, Option.some.injEq, exists_eq_left', decide_true, decide_false, if_true, if_false, reduceCtorEq, cond_true, cond_false, e1]
  refine rep_s (by omega) fun w1 b1 => ?_
  have b01 := bt bd b1
  rw [kp_e]
  refine ⟨run_cvb slt66 u5 st9 (rdI_below b01 h), ?_⟩
  rw [cat_e]
  refine ⟨by rw [son_size, zs_size]; omega, ?_⟩
  rw [pad_of hl hb]
  try simp only [↓reduceIte, ↓LL, LM, Value.cells, Nat.reduceAdd, Option.some.injEq, exists_eq_left', decide_true, decide_false, if_true, if_false, reduceCtorEq, cond_true, cond_false]
  exact kk w1 b01
theorem f21_s {p j : Int} (h : 0 ≤ p ∧ p ≤ 1000000) (hj : 0 ≤ j ∧ j ≤ 1000) (kk : Q (.int .i64 (126 + 4 * p + j)) w) : f21 (.int .i64 p) (.int .i64 j) w Q := by
  unfold f21
  have e1 : IntKind.i64.wrap (4 * p) = 4 * p := w64 (by omega) (by omega)
  have e2 : IntKind.i64.wrap (126 + 4 * p) = 126 + 4 * p := w64 (by omega) (by omega)
  have e3 : IntKind.i64.wrap (126 + 4 * p + j) = 126 + 4 * p + j := w64 (by omega) (by omega)
  try simp only [↓reduceIte, ↓LL, LM, Value.cells, Nat.reduceAdd, Option.some.injEq, exists_eq_left', decide_true, decide_false, if_true, if_false, reduceCtorEq, cond_true, cond_false, e1, e2, e3]
  exact kk
theorem f20_s {p j : Int} (h : 0 ≤ p ∧ p ≤ 1000000) (hj : 0 ≤ j ∧ j ≤ 1000) (kk : Q (.int .i64 (2 + 4 * p + j)) w) : f20 (.int .i64 p) (.int .i64 j) w Q := by
  unfold f20
  have e1 : IntKind.i64.wrap (4 * p) = 4 * p := w64 (by omega) (by omega)
  have e2 : IntKind.i64.wrap (2 + 4 * p) = 2 + 4 * p := w64 (by omega) (by omega)
  have e3 : IntKind.i64.wrap (2 + 4 * p + j) = 2 + 4 * p + j := w64 (by omega) (by omega)
  try simp only [↓reduceIte, ↓LL, LM, Value.cells, Nat.reduceAdd, Option.some.injEq, exists_eq_left', decide_true, decide_false, if_true, if_false, reduceCtorEq, cond_true, cond_false, e1, e2, e3]
  exact kk
theorem f22_s {p : Int} (h : 0 ≤ p ∧ p ≤ 1000000) (kk : Q (.int .i64 (126 + 4 * p)) w) : f22 (.int .i64 p) w Q := by
  unfold f22
  try simp only [↓reduceIte, ↓LL, LM, Value.cells, Nat.reduceAdd, Option.some.injEq, exists_eq_left', decide_true, decide_false, if_true, if_false, reduceCtorEq, cond_true, cond_false]
  refine f21_s h (by omega) ?_
  try simp only [↓reduceIte, ↓LL, LM, Value.cells, Nat.reduceAdd, Option.some.injEq, exists_eq_left', decide_true, decide_false, if_true, if_false, reduceCtorEq, cond_true, cond_false]
  rw [Int.add_zero]
  exact kk
def markB (b : Bool) : Sct := pad (if b = true then ⟨#[1]⟩ else ⟨#[]⟩)
theorem f18_s {b : Bool} (kk : ∀ w', Below w.heap.size w w' → Q (.string (markB b).1) w') : f18 (.bool b) w Q := by
  unfold f18
  cases b with
  | true =>
    try simp only [↓reduceIte, ↓LL, LM, Value.cells, Nat.reduceAdd, Option.some.injEq, exists_eq_left', decide_true, decide_false, if_true, if_false, reduceCtorEq, cond_true, cond_false]
    refine bsl1 slt66 rfl rfl ?_
    have b1 := b_psh w (.cells #[.int .u8 1] 5)
    have blk := blk_psh_new (w := w) (o := .cells #[.int .u8 1] 5)
    have hr : rdI .u8 (psh w (.cells #[.int .u8 1] 5)) (.slice (some ⟨w.heap.size, 0, none⟩) 1 1) [1] := by
      refine ⟨_, 1, rfl, fun i hi => ⟨_, rfl, ?_⟩⟩
      have : i = 0 := by simpa using hi
      subst this
      rw [add_lit, cell_of_blk blk]; rfl
    generalize psh w (.cells #[.int .u8 1] 5) = w1 at *
    try simp only [↓reduceIte, ↓LL, LM, Value.cells, Nat.reduceAdd, Option.some.injEq, exists_eq_left', decide_true, decide_false, if_true, if_false, reduceCtorEq, cond_true, cond_false]
    refine f50_s hr (by decide) (by decide) fun w2 b2 => ?_
    try simp only [↓reduceIte, ↓LL, LM, Value.cells, Nat.reduceAdd, Option.some.injEq, exists_eq_left', decide_true, decide_false, if_true, if_false, reduceCtorEq, cond_true, cond_false]
    exact kk w2 (bt b1 b2)
  | false =>
    try simp only [↓reduceIte, ↓LL, LM, Value.cells, Nat.reduceAdd, Option.some.injEq, exists_eq_left', decide_true, decide_false, if_true, if_false, reduceCtorEq, cond_true, cond_false]
    refine f50_s (l := []) ⟨none, 0, rfl, fun i hi => by simp at hi⟩ (by decide) (by decide) fun w2 b2 => ?_
    try simp only [↓reduceIte, ↓LL, LM, Value.cells, Nat.reduceAdd, Option.some.injEq, exists_eq_left', decide_true, decide_false, if_true, if_false, reduceCtorEq, cond_true, cond_false]
    exact kk w2 b2
def mkd (s : ByteArray) : Bool := match byL s with | [] => false | x :: _ => decide (x ≠ 0)
theorem mkd_nil {s : ByteArray} (h : s = ⟨#[]⟩) : mkd s = false := by rw [h]; rfl
theorem mkd_cons {s : ByteArray} {c : UInt8} (h : s[0]? = some c) : mkd s = decide ((c.toNat : Int) ≠ 0) := by
  have h0 : 0 < (byL s).length := by
    rw [byL_len]
    rcases Nat.eq_zero_or_pos s.size with e | e
    · rw [getElem?_neg s 0 (by omega)] at h; cases h
    · exact e
  obtain ⟨c', h1, h2⟩ := byL_get s 0 h0
  rw [h] at h1
  cases h1
  unfold mkd
  cases e : byL s with
  | nil => rw [e] at h0; simp at h0
  | cons x l =>
    have : x = (c.toNat : Int) := by
      have := h2
      simp only [e, List.getElem_cons_zero] at this
      exact this
    rw [this]
theorem f19_s {s : ByteArray} (kk : Q (.bool (mkd s)) w) : f19 (.string s) w Q := by
  unfold f19
  by_cases h : s = ⟨#[]⟩
  · rw [mkd_nil h] at kk
    try simp only [↓reduceIte, ↓LL, LM, Value.cells, Nat.reduceAdd, Option.some.injEq, exists_eq_left', decide_true, decide_false, if_true, if_false, reduceCtorEq, cond_true, cond_false, h, ne_eq]
    exact kk
  · have h0 : 0 < s.size := by
      rcases Nat.eq_zero_or_pos s.size with e | e
      · exact absurd (ByteArray.ext (Array.eq_empty_of_size_eq_zero e)) h
      · exact e
    have h1 : s[0]? = some s[0] := getElem?_pos s 0 h0
    rw [mkd_cons h1] at kk
    try simp only [↓reduceIte, ↓LL, LM, Value.cells, Nat.reduceAdd, Option.some.injEq, exists_eq_left', decide_true, decide_false, if_true, if_false, reduceCtorEq, cond_true, cond_false, h, ne_eq]
    refine ⟨s, _, _, _, rfl, rfl, by decide, h1, ?_⟩
    try simp only [↓reduceIte, ↓LL, LM, Value.cells, Nat.reduceAdd, Option.some.injEq, exists_eq_left', decide_true, decide_false, if_true, if_false, reduceCtorEq, cond_true, cond_false, ne_eq]
    try simp only [ne_eq, decide_not] at kk
    exact kk
end
end Go.Proofs.YtongpnolikkknaaDoor
