/- Functions as predicate transformers, and that the machine does what they say, by program. -/
import Derived.Test.YtongpnolikkknaaGreatDoorZ1
import Derived.Lib.ConvBytes
import Derived.Laws.StructEq
import Derived.ChangeKeysEq
import Derived.Lib.AppendStr
import Derived.Laws.BytesArg
import Derived.Laws.OwnMore
import Derived.ChangeShapes
import Derived.Test.YtongpnolikkknaaGreatDoorRows
import Derived.Laws.Pointers
import Derived.Laws.Bits64b
import Derived.MapKept
import Derived.Maps.RangeRun
set_option linter.unusedVariables false
set_option linter.unusedSimpArgs false
set_option linter.unusedSectionVars false
set_option maxRecDepth 20000
set_option maxHeartbeats 4000000
namespace Go.Proofs.YtongpnolikkknaaGreatDoor
open Sh
attribute [local irreducible] wpL anyG act jn lo gdB amb kp smr nc fa ld ldn st stn ad su mu qu re lt le gt ge eqi nei bws shl shr cat eqs nes lts gts eqb neb nt pk cv al bx ex fld fldn lnl lns ia iaa ixs sls sll sla mif mnm mxm mm asrt sm smu cl cc cf ci cnd gd gdu
/- (*factotum/device.Device).Crash -/
def f51_j3 (self2 : Value → Value → Value → Value → Value → Value → Value → M) (t0_2 t1_2 t2_2 t3_2 t14_2 t15_2 t16_1 : Value) : M :=
  ad .i64 t16_1 (.int .i64 1) fun t74 =>
  self2 t0_2 t1_2 t2_2 t3_2 t14_2 t15_2 t74
def f51_b2 (j1 : Value → M) (self2 : Value → Value → Value → Value → Value → Value → Value → M) (t0_1 t1_1 t2_1 t3_1 t14_1 t15_1 t16 : Value) : M :=
  lt .i64 t16 t15_1 fun t17 =>
  cnd t17 (
    ia 1 t14_1 t16 fun t19 =>
    ld t19 fun t20 =>
    nc t0_1 fun t22 =>
    fa 1 t22 fun t23 =>
    ld t23 fun t24 =>
    smr Tryz.prog (Instr.lookup 128 t24 t20 false) fun t26 =>
    al 145 (Array.replicate 64 (.int .u8 0)) fun t10 =>
    stn 64 t10 t26 <|
    eqi .i64 t16 t2_1 fun t30 =>
    jn (fun (j3 : Value → Value → Value → Value → Value → Value → Value → M) =>
      cnd t30 (
        dr <|
        idv t0_1 fun t31 =>
        nc t31 fun t32 =>
        fa 0 t32 fun t33 =>
        ld t33 fun t34 =>
        idv t20 fun t35 =>
        ia 64 t34 t35 fun t36 =>
        idv t3_1 fun t37 =>
        mxm t37 (.int .i64 0) fun t38 =>
        mnm t38 (.int .i64 64) fun t39 =>
        sla 64 1 t36 none (some t39) fun t40 =>
        sla 64 1 t10 none none fun t41 =>
        sm Tryz.prog (Builtin.copy_ #[42, 42] 3 #[t40, t41]) fun t42 =>
        j3 t0_1 t1_1 t2_1 t3_1 t14_1 t15_1 t16
        ) (
        dr <|
        idv t1_1 fun t44 =>
        lnl t44 fun t45 =>
        gt .i64 t45 (.int .i64 0) fun t46 =>
        idv t46 fun t47 =>
        gd t47 true (idv t1_1) fun t48 =>
        gd t47 true (idv t16) fun t49 =>
        gd t47 true (idv t1_1) fun t50 =>
        gd t47 true (lnl t50) fun t51 =>
        gd t47 true (re .i64 t49 t51) fun t52 =>
        gd t47 true (ia 1 t48 t52) fun t53 =>
        gd t47 true (ld t53) fun t54 =>
        pk t47 t54 (.bool false) fun t55 =>
        idv t55 fun t56 =>
        gd t56 true (ldn 64 t10) fun t57 =>
        gd t56 true (idv t0_1) fun t58 =>
        gd t56 true (nc t58) fun t59 =>
        gd t56 true (fa 0 t59) fun t60 =>
        gd t56 true (ld t60) fun t61 =>
        gd t56 true (idv t20) fun t62 =>
        gd t56 true (ia 64 t61 t62) fun t63 =>
        gd t56 true (ldn 64 t63) fun t64 =>
        gd t56 true (smr Tryz.prog (do eqGuard .neq 145 (.tmp 57) (.tmp 64) t57 t64; binOp .neq 145 t57 t64)) fun t65 =>
        pk t56 t65 (.bool false) fun t66 =>
        idv t66 fun t43 =>
        cnd t43 (
          dr <|
          idv t0_1 fun t67 =>
          nc t67 fun t68 =>
          fa 0 t68 fun t69 =>
          ld t69 fun t70 =>
          idv t20 fun t71 =>
          ldn 64 t10 fun t72 =>
          ia 64 t70 t71 fun t73 =>
          stn 64 t73 t72 <|
          j3 t0_1 t1_1 t2_1 t3_1 t14_1 t15_1 t16
          ) (
          j3 t0_1 t1_1 t2_1 t3_1 t14_1 t15_1 t16
          )
        )
      ) (f51_j3 self2)
    ) (
    j1 t0_1
    )
def f51_j1 (t0_3 : Value) : M :=
  nc t0_3 fun t76 =>
  fa 1 t76 fun t77 =>
  ld t77 fun t78 =>
  sm Tryz.prog (Builtin.clear_ #[128] 0 #[t78]) fun _ =>
  nc t0_3 fun t80 =>
  fa 3 t80 fun t81 =>
  st t81 (.int .i64 4611686018427387904) <|
  rt (.tuple #[])
def f51 (t0 t1 t2 t3 : Value) : M :=
  smr Tryz.prog (do eqGuard .eql 63 (.tmp 11) (.const (.pointer none)) t0 (.pointer none); binOp .eql 63 t0 (.pointer none)) fun t12 =>
  cnd t12 (
    rt (.tuple #[])
    ) (
    cl (f48 t0) fun t14 =>
    lnl t14 fun t15 =>
    jn (fun (j1 : Value → M) =>
      lo (fun _ _ _ _ _ _ _ => bot) (f51_b2 j1) (fun l => l t0 t1 t2 t3 t14 t15 (.int .i64 0))
      ) (f51_j1)
    )
theorem s51 (t0 t1 t2 t3 : Value) (w : World) (Q : Value → World → Prop) (h : f51 t0 t1 t2 t3 w Q) : Calls Tryz.prog 51 #[t0, t1, t2, t3] w (Rt Q) := by
  refine calls_of (l := [t0, t1, t2, t3]) Tryz.func51 rfl Tryz.ntmps51 (Nat.le_of_ble_eq_true rfl) ?_
  unfold f51 at h
  refine wp_seq ?_
  refine wp_seq ?_
  refine L_region ?_
  refine L_mv ?_
  refine L_u (P_smr rfl h) ?_
  intro v w h
  refine L_nil ?_
  refine E_n ?_
  refine C_cnd h (fun h => ?_) (fun h => ?_)
  · refine C_ret ?_
    show bodyPost Tryz.prog Tryz.f51 (Rt Q) .ret _ _
    exact post_tmps (ts := []) (.inr rfl) rfl h
  · refine C_skip ?_
    refine E_n ?_
    refine wp_seq ?_
    refine wp_seq ?_
    refine L_region ?_
    refine L_mv ?_
    refine L_u (N_cl Tryz.func48 rfl nn48 (fun w Q h => s48 _ w Q h) h) ?_
    intro v w h
    refine L_u (P_lnl is22 h) ?_
    intro v w h
    refine L_mv ?_
    refine L_nil ?_
    refine E_n ?_
    refine C_join (fun (k : Value → M) (ρ : Nat → Value) => k (ρ 0)) h (fun j1 J1 h => ?_) (fun ρ w h => ?_)
    · refine C_blk ?_
      refine C_lo (fun (l : Value → Value → Value → Value → Value → Value → Value → M) (ρ : Nat → Value) => l (ρ 0) (ρ 1) (ρ 2) (ρ 3) (ρ 14) (ρ 15) (ρ 16)) h (fun ρ w h => h) (fun nx self2 L2 ρ w h => ?_)
      unfold f51_b2 at h
      refine wp_seq ?_
      refine L_region ?_
      refine L_u (P_lt h) ?_
      intro v w h
      refine L_nil ?_
      refine E_n ?_
      refine wp_seq ?_
      refine C_cnd h (fun h => ?_) (fun h => ?_)
      · refine C_skip ?_
        refine E_n ?_
        refine wp_seq ?_
        refine C_blk ?_
        refine wp_seq ?_
        refine L_region ?_
        refine L_mv ?_
        refine L_u (P_ia se22 h) ?_
        intro v w h
        refine L_u (P_ld sc3 h) ?_
        intro v w h
        refine L_as ?_
        refine L_as ?_
        refine L_nil ?_
        refine E_n ?_
        refine wp_seq ?_
        refine L_region ?_
        refine L_mv ?_
        refine L_u (P_nc h) ?_
        intro v w h
        refine L_u (P_fa fo130_1 h) ?_
        intro v w h
        refine L_u (P_ld sc128 h) ?_
        intro v w h
        refine L_mv ?_
        refine L_u (P_smr rfl h) ?_
        intro v w h
        refine L_u (P_al ze145 rfl h) ?_
        intro v w h
        refine L_u (P_stn ag145 h) ?_
        intro w h
        refine L_nil ?_
        refine E_n ?_
        refine C_blk ?_
        refine wp_seq ?_
        refine L_region ?_
        refine L_mv ?_
        refine L_mv ?_
        refine L_u (P_eqi h) ?_
        intro v w h
        refine L_as ?_
        refine L_nil ?_
        refine E_n ?_
        refine C_join (fun (k : Value → Value → Value → Value → Value → Value → Value → M) (ρ : Nat → Value) => k (ρ 0) (ρ 1) (ρ 2) (ρ 3) (ρ 14) (ρ 15) (ρ 16)) h (fun j3 J3 h => ?_) (fun ρ w h => ?_)
        · refine C_cnd h (fun h => ?_) (fun h => ?_)
          · refine D_region (by decide +kernel) 12 rfl ?_
            replace h := dr_e h
            refine G_p 0 rfl (by decide +kernel) (Y_mv h) ?_
            intro v h
            refine G_p 1 rfl (by decide +kernel) (Y_nc h) ?_
            intro v h
            refine G_p 2 rfl (by decide +kernel) (Y_fa fo130_0 h) ?_
            intro v h
            refine G_r _ 3 rfl (by decide +kernel) (R_ld sc127 h) ?_
            intro v h
            refine G_p 4 rfl (by decide +kernel) (Y_mv h) ?_
            intro v h
            refine G_p 5 rfl (by decide +kernel) (Y_ia se127 h) ?_
            intro v h
            refine G_p 6 rfl (by decide +kernel) (Y_mv h) ?_
            intro v h
            refine G_p 7 rfl (by decide +kernel) (Y_mxm (t := 0) h) ?_
            intro v h
            refine G_p 8 rfl (by decide +kernel) (Y_mnm (t := 0) h) ?_
            intro v h
            refine G_p 9 rfl (by decide +kernel) (Y_sla ae145 h) ?_
            intro v h
            refine G_p 10 rfl (by decide +kernel) (Y_sla ae145 h) ?_
            intro v h
            refine G_e 11 rfl (by decide +kernel) (N_bi rfl h ?_)
            intro v w h
            refine ⟨keepF_dep [9, 5, 3] (by decide +kernel) rfl keepF_nil, ?_⟩
            refine G_done (by decide +kernel) ?_
            exact J3 _ _ h
          · refine wp_seq ?_
            refine D_region (by decide +kernel) 24 rfl ?_
            replace h := dr_e h
            refine G_p 0 rfl (by decide +kernel) (Y_mv h) ?_
            intro v h
            refine G_p 1 rfl (by decide +kernel) (Y_lnl is78 h) ?_
            intro v h
            refine G_p 2 rfl (by decide +kernel) (Y_gt h) ?_
            intro v h
            refine G_p 3 rfl (by decide +kernel) (Y_mv h) ?_
            intro v h
            refine G_pg (t := 47) 4 rfl (by decide +kernel) h rfl rfl (fun h => Y_mv h) ?_
            intro v h
            refine G_pg (t := 47) 5 rfl (by decide +kernel) h rfl rfl (fun h => Y_mv h) ?_
            intro v h
            refine G_pg (t := 47) 6 rfl (by decide +kernel) h rfl rfl (fun h => Y_mv h) ?_
            intro v h
            refine G_pg (t := 47) 7 rfl (by decide +kernel) h rfl rfl (fun h => Y_lnl is78 h) ?_
            intro v h
            refine G_pg (t := 47) 8 rfl (by decide +kernel) h rfl rfl (fun h => Y_re h) ?_
            intro v h
            refine G_pg (t := 47) 9 rfl (by decide +kernel) h rfl rfl (fun h => Y_ia se78 h) ?_
            intro v h
            refine G_rg (t := 47) _ 10 rfl (by decide +kernel) h rfl rfl (fun h => R_ld sc4 h) ?_
            intro v h
            refine G_p 11 rfl (by decide +kernel) (Y_pk h) ?_
            intro v h
            refine G_p 12 rfl (by decide +kernel) (Y_mv h) ?_
            intro v h
            refine G_rg (t := 56) _ 13 rfl (by decide +kernel) h rfl rfl (fun h => R_ldn ag145 h) ?_
            intro v h
            refine G_pg (t := 56) 14 rfl (by decide +kernel) h rfl rfl (fun h => Y_mv h) ?_
            intro v h
            refine G_pg (t := 56) 15 rfl (by decide +kernel) h rfl rfl (fun h => Y_nc h) ?_
            intro v h
            refine G_pg (t := 56) 16 rfl (by decide +kernel) h rfl rfl (fun h => Y_fa fo130_0 h) ?_
            intro v h
            refine G_rg (t := 56) _ 17 rfl (by decide +kernel) h rfl rfl (fun h => R_ld sc127 h) ?_
            intro v h
            refine G_pg (t := 56) 18 rfl (by decide +kernel) h rfl rfl (fun h => Y_mv h) ?_
            intro v h
            refine G_pg (t := 56) 19 rfl (by decide +kernel) h rfl rfl (fun h => Y_ia se127 h) ?_
            intro v h
            refine G_rg (t := 56) _ 20 rfl (by decide +kernel) h rfl rfl (fun h => R_ldn ag145 h) ?_
            intro v h
            refine G_rg (t := 56) _ 21 rfl (by decide +kernel) h rfl rfl (fun h => R_sm rfl h) ?_
            intro v h
            refine G_p 22 rfl (by decide +kernel) (Y_pk h) ?_
            intro v h
            refine G_p 23 rfl (by decide +kernel) (Y_as h) ?_
            intro v h
            refine G_done (by decide +kernel) ?_
            refine E_n ?_
            refine C_cnd h (fun h => ?_) (fun h => ?_)
            · refine D_region (by decide +kernel) 8 rfl ?_
              replace h := dr_e h
              refine G_p 0 rfl (by decide +kernel) (Y_mv h) ?_
              intro v h
              refine G_p 1 rfl (by decide +kernel) (Y_nc h) ?_
              intro v h
              refine G_p 2 rfl (by decide +kernel) (Y_fa fo130_0 h) ?_
              intro v h
              refine G_r _ 3 rfl (by decide +kernel) (R_ld sc127 h) ?_
              intro v h
              refine G_p 4 rfl (by decide +kernel) (Y_mv h) ?_
              intro v h
              refine G_r _ 5 rfl (by decide +kernel) (R_ldn ag145 h) ?_
              intro v h
              refine G_p 6 rfl (by decide +kernel) (Y_ia se127 h) ?_
              intro v h
              refine G_e 7 rfl (by decide +kernel) (P_stn ag145 h ?_)
              intro w h
              refine ⟨keepF_dep [5] (by decide +kernel) rfl (keepF_dep [3] (by decide +kernel) rfl keepF_nil), ?_⟩
              refine G_done (by decide +kernel) ?_
              exact J3 _ _ h
            · refine C_skip ?_
              exact J3 _ _ h
        · unfold f51_j3 at h
          refine B_n ?_
          refine B_n ?_
          refine E_n ?_
          refine L_region ?_
          refine L_u (P_ad h) ?_
          intro v w h
          refine L_mv ?_
          refine L_nil ?_
          refine E_n ?_
          exact L2 _ _ h
      · refine C_exit ?_
        refine E_x ?_
        refine E_x ?_
        refine B_x ?_
        exact J1 _ _ h
    · unfold f51_j1 at h
      refine E_n ?_
      refine wp_seq ?_
      refine L_region ?_
      refine L_mv ?_
      refine L_u (P_nc h) ?_
      intro v w h
      refine L_u (P_fa fo130_1 h) ?_
      intro v w h
      refine L_u (P_ld sc128 h) ?_
      intro v w h
      refine L_u (N_bin rfl h) ?_
      intro w h
      refine L_nil ?_
      refine E_n ?_
      refine L_region ?_
      refine L_mv ?_
      refine L_u (P_nc h) ?_
      intro v w h
      refine L_u (P_fa fo130_3 h) ?_
      intro v w h
      refine L_u (P_st on3 h) ?_
      intro w h
      refine L_nil ?_
      show bodyPost Tryz.prog Tryz.f51 (Rt Q) .normal _ _
      exact post_tmps (ts := []) (.inl rfl) rfl h

/- factotum/factotumlaw06.PagerLost -/
def f8 (t0 t1 t2 : Value) : M :=
  bx 72 t1 fun t4 =>
  bx 80 t2 fun t5 =>
  cl (f35) fun t13 =>
  nt t13 fun t14 =>
  cnd t14 (
    rt (.bool false)
    ) (
    cl (f36 t0) fun t16 =>
    cl (f39 t16) fun t18 =>
    cl (f38 t18) fun t19 =>
    cl (f40 t19 t16) fun t23 =>
    ex 0 t23 fun t24 =>
    ex 1 t23 fun t25 =>
    ldn 2 t4 fun t27 =>
    cl (f42 t27) fun t28 =>
    ex 0 t28 fun t29 =>
    ex 1 t28 fun t30 =>
    cl (f41 t16) fun t32 =>
    nei .i64 t25 (.int .i64 0) fun t34 =>
    gd t34 false (idv t24) fun t36 =>
    gd t34 false (idv t29) fun t37 =>
    gd t34 false (cl (f44 t36 t37)) fun t38 =>
    gd t34 false (nei .i64 t38 (.int .i64 0)) fun t39 =>
    pk t34 (.bool true) t39 fun t40 =>
    cnd t40 (
      eqi .i64 t25 (.int .i64 0) fun t42 =>
      gd t42 true (idv t32) fun t44 =>
      gd t42 true (idv t30) fun t45 =>
      gd t42 true (cl (f45 t44 t45)) fun t46 =>
      gd t42 true (nei .i64 t46 (.int .i64 0)) fun t47 =>
      pk t42 t47 (.bool false) fun t48 =>
      rt t48
      ) (
      fa 3 t5 fun t50 =>
      ld t50 fun t51 =>
      fa 1 t5 fun t52 =>
      ld t52 fun t53 =>
      fa 2 t5 fun t54 =>
      ld t54 fun t55 =>
      cl (f51 t19 t51 t53 t55) fun t56 =>
      cl (f40 t19 t16) fun t60 =>
      ex 0 t60 fun t61 =>
      ex 1 t60 fun t62 =>
      eqi .i64 t62 (.int .i64 0) fun t64 =>
      gd t64 true (idv t61) fun t66 =>
      gd t64 true (idv t32) fun t67 =>
      gd t64 true (idv t30) fun t68 =>
      gd t64 true (cl (f46 t67 t68)) fun t69 =>
      gd t64 true (cl (f49 t66 t69)) fun t70 =>
      pk t64 t70 (.bool false) fun t71 =>
      rt t71
      )
    )
def f52 (t0 t1 : Value) : M :=
  smr Tryz.prog (do eqGuard .eql 63 (.tmp 14) (.const (.pointer none)) t0 (.pointer none); binOp .eql 63 t0 (.pointer none)) fun t15 =>
  cnd t15 (
    rt (.tuple #[])
    ) (
    lt .i64 t1 (.int .i64 0) fun t18 =>
    gd t18 false (idv t1) fun t20 =>
    gd t18 false (gt .i64 t20 (.int .i64 1099511627776)) fun t21 =>
    pk t18 (.bool true) t21 fun t22 =>
    cnd t22 (
      nc t0 fun t24 =>
      fa 3 t24 fun t25 =>
      st t25 (.int .i64 4611686018427387904) <|
      rt (.tuple #[])
      ) (
      nc t0 fun t6 =>
      fa 2 t6 fun t7 =>
      ld t7 fun t8 =>
      ad .i64 t8 t1 fun t10 =>
      nc t0 fun t11 =>
      fa 3 t11 fun t12 =>
      st t12 t10 <|
      rt (.tuple #[])
      )
    )
theorem s52 (t0 t1 : Value) (w : World) (Q : Value → World → Prop) (h : f52 t0 t1 w Q) : Calls Tryz.prog 52 #[t0, t1] w (Rt Q) := by
  refine calls_of (l := [t0, t1]) Tryz.func52 rfl Tryz.ntmps52 (Nat.le_of_ble_eq_true rfl) ?_
  unfold f52 at h
  refine C_blk ?_
  refine wp_seq ?_
  refine L_region ?_
  refine L_mv ?_
  refine L_u (P_smr rfl h) ?_
  intro v w h
  refine L_as ?_
  refine L_nil ?_
  refine E_n ?_
  refine C_cnd h (fun h => ?_) (fun h => ?_)
  · refine C_skip ?_
    refine B_n ?_
    show bodyPost Tryz.prog Tryz.f52 (Rt Q) .normal _ _
    exact post_tmps (ts := []) (.inl rfl) rfl h
  · refine wp_seq ?_
    refine L_region ?_
    refine L_mv ?_
    refine L_u (P_lt h) ?_
    intro v w h
    refine L_mv ?_
    refine L_g (t := 19) h rfl rfl (fun c h => P_mv h c) ?_
    intro v w h
    refine L_g (t := 19) h rfl rfl (fun c h => P_gt h c) ?_
    intro v w h
    refine L_u (P_pk h) ?_
    intro v w h
    refine L_as ?_
    refine L_nil ?_
    refine E_n ?_
    refine C_cnd h (fun h => ?_) (fun h => ?_)
    · refine L_region ?_
      refine L_mv ?_
      refine L_u (P_nc h) ?_
      intro v w h
      refine L_u (P_fa fo130_3 h) ?_
      intro v w h
      refine L_u (P_st on3 h) ?_
      intro w h
      refine L_nil ?_
      refine B_n ?_
      show bodyPost Tryz.prog Tryz.f52 (Rt Q) .normal _ _
      exact post_tmps (ts := []) (.inl rfl) rfl h
    · refine L_region ?_
      refine L_mv ?_
      refine L_mv ?_
      refine L_u (P_nc h) ?_
      intro v w h
      refine L_u (P_fa fo130_2 h) ?_
      intro v w h
      refine L_u (P_ld sc3 h) ?_
      intro v w h
      refine L_mv ?_
      refine L_u (P_ad h) ?_
      intro v w h
      refine L_u (P_nc h) ?_
      intro v w h
      refine L_u (P_fa fo130_3 h) ?_
      intro v w h
      refine L_u (P_st on3 h) ?_
      intro w h
      refine L_nil ?_
      refine B_n ?_
      show bodyPost Tryz.prog Tryz.f52 (Rt Q) .normal _ _
      exact post_tmps (ts := []) (.inl rfl) rfl h

/- factotum/factotumlaw06.again -/
def f53_b2 (j1 : Value → Value → M) (self2 : Value → Value → Value → Value → M) (t0_1 t1_1 t2_1 t7 : Value) : M :=
  lnl t2_1 fun t15 =>
  lt .i64 t7 t15 fun t16 =>
  gd t16 true (idv t7) fun t18 =>
  gd t16 true (lt .i64 t18 (.int .i64 4)) fun t19 =>
  pk t16 t19 (.bool false) fun t20 =>
  cnd t20 (
    lnl t2_1 fun t25 =>
    su .i64 t25 (.int .i64 1) fun t26 =>
    su .i64 t26 t7 fun t28 =>
    ia 4 t2_1 t28 fun t29 =>
    ldn 4 t29 fun t30 =>
    al 80 #[(.int .i64 0), (.int .i64 0), (.int .i64 0), (.slice none 0 0)] fun t8 =>
    stn 4 t8 t30 <|
    fa 2 t8 fun t32 =>
    ld t32 fun t33 =>
    cl (f52 t0_1 t33) fun t34 =>
    cl (f40 t0_1 t1_1) fun t38 =>
    ex 0 t38 fun t39 =>
    ex 1 t38 fun t40 =>
    nei .i64 t40 (.int .i64 0) fun t42 =>
    gd t42 true (idv t40) fun t44 =>
    gd t42 true (nei .i64 t44 (.int .i64 9)) fun t45 =>
    pk t42 t45 (.bool false) fun t46 =>
    cnd t46 (
      rt (.pointer none)
      ) (
      fa 3 t8 fun t48 =>
      ld t48 fun t49 =>
      fa 1 t8 fun t50 =>
      ld t50 fun t51 =>
      fa 0 t8 fun t52 =>
      ld t52 fun t53 =>
      cl (f51 t0_1 t49 t51 t53) fun t54 =>
      ad .i64 t7 (.int .i64 1) fun t22 =>
      self2 t0_1 t1_1 t2_1 t22
      )
    ) (
    j1 t0_1 t1_1
    )
def f53_j1 (t0_2 t1_2 : Value) : M :=
  cl (f40 t0_2 t1_2) fun t58 =>
  ex 0 t58 fun t59 =>
  ex 1 t58 fun t60 =>
  nei .i64 t60 (.int .i64 0) fun t62 =>
  cnd t62 (
    rt (.pointer none)
    ) (
    rt t59
    )
def f53 (t0 t1 t2 : Value) : M :=
  jn (fun (j1 : Value → Value → M) =>
    lo (fun _ _ _ _ => bot) (f53_b2 j1) (fun l => l t0 t1 t2 (.int .i64 0))
    ) (f53_j1)
theorem s53 (t0 t1 t2 : Value) (w : World) (Q : Value → World → Prop) (h : f53 t0 t1 t2 w Q) : Calls Tryz.prog 53 #[t0, t1, t2] w (Rt Q) := by
  refine calls_of (l := [t0, t1, t2]) Tryz.func53 rfl Tryz.ntmps53 (Nat.le_of_ble_eq_true rfl) ?_
  unfold f53 at h
  refine wp_seq ?_
  refine L_region ?_
  refine L_as ?_
  refine L_nil ?_
  refine E_n ?_
  refine wp_seq ?_
  refine wp_seq ?_
  refine L_region ?_
  refine L_as ?_
  refine L_nil ?_
  refine E_n ?_
  refine C_join (fun (k : Value → Value → M) (ρ : Nat → Value) => k (ρ 0) (ρ 1)) h (fun j1 J1 h => ?_) (fun ρ w h => ?_)
  · refine C_blk ?_
    refine C_lo (fun (l : Value → Value → Value → Value → M) (ρ : Nat → Value) => l (ρ 0) (ρ 1) (ρ 2) (ρ 7)) h (fun ρ w h => h) (fun nx self2 L2 ρ w h => ?_)
    unfold f53_b2 at h
    refine wp_seq ?_
    refine wp_seq ?_
    refine L_region ?_
    refine L_mv ?_
    refine L_mv ?_
    refine L_u (P_lnl is83 h) ?_
    intro v w h
    refine L_u (P_lt h) ?_
    intro v w h
    refine L_mv ?_
    refine L_g (t := 17) h rfl rfl (fun c h => P_mv h c) ?_
    intro v w h
    refine L_g (t := 17) h rfl rfl (fun c h => P_lt h c) ?_
    intro v w h
    refine L_u (P_pk h) ?_
    intro v w h
    refine L_nil ?_
    refine E_n ?_
    refine C_cnd h (fun h => ?_) (fun h => ?_)
    · refine C_skip ?_
      refine E_n ?_
      refine wp_seq ?_
      refine C_blk ?_
      refine wp_seq ?_
      refine L_region ?_
      refine L_mv ?_
      refine L_mv ?_
      refine L_u (P_lnl is83 h) ?_
      intro v w h
      refine L_u (P_su h) ?_
      intro v w h
      refine L_mv ?_
      refine L_u (P_su h) ?_
      intro v w h
      refine L_u (P_ia se83 h) ?_
      intro v w h
      refine L_u (P_ldn ag80 h) ?_
      intro v w h
      refine L_u (P_al ze80 rfl h) ?_
      intro v w h
      refine L_u (P_stn ag80 h) ?_
      intro w h
      refine L_nil ?_
      refine E_n ?_
      refine wp_seq ?_
      refine L_region ?_
      refine L_mv ?_
      refine L_u (P_fa fo80_2 h) ?_
      intro v w h
      refine L_u (P_ld sc3 h) ?_
      intro v w h
      refine L_u (N_cl Tryz.func52 rfl nn52 (fun w Q h => s52 _ _ w Q h) h) ?_
      intro v w h
      refine L_nil ?_
      refine E_n ?_
      refine wp_seq ?_
      refine L_region ?_
      refine L_mv ?_
      refine L_mv ?_
      refine L_u (N_cl Tryz.func40 rfl nn40 (fun w Q h => s40 _ _ w Q h) h) ?_
      intro v w h
      refine L_mv ?_
      refine L_u (P_ex h) ?_
      intro v w h
      refine L_u (P_ex h) ?_
      intro v w h
      refine L_as ?_
      refine L_as ?_
      refine L_nil ?_
      refine E_n ?_
      refine wp_seq ?_
      refine wp_seq ?_
      refine L_region ?_
      refine L_mv ?_
      refine L_u (P_nei h) ?_
      intro v w h
      refine L_mv ?_
      refine L_g (t := 43) h rfl rfl (fun c h => P_mv h c) ?_
      intro v w h
      refine L_g (t := 43) h rfl rfl (fun c h => P_nei h c) ?_
      intro v w h
      refine L_u (P_pk h) ?_
      intro v w h
      refine L_nil ?_
      refine E_n ?_
      refine C_cnd h (fun h => ?_) (fun h => ?_)
      · refine wp_seq ?_
        refine L_region ?_
        refine L_as ?_
        refine L_nil ?_
        refine E_n ?_
        refine C_ret ?_
        show bodyPost Tryz.prog Tryz.f53 (Rt Q) .ret _ _
        exact post_tmps (ts := [6]) (.inr rfl) rfl h
      · refine C_skip ?_
        refine E_n ?_
        refine L_region ?_
        refine L_mv ?_
        refine L_u (P_fa fo80_3 h) ?_
        intro v w h
        refine L_u (P_ld sc78 h) ?_
        intro v w h
        refine L_u (P_fa fo80_1 h) ?_
        intro v w h
        refine L_u (P_ld sc3 h) ?_
        intro v w h
        refine L_u (P_fa fo80_0 h) ?_
        intro v w h
        refine L_u (P_ld sc3 h) ?_
        intro v w h
        refine L_u (N_cl Tryz.func51 rfl nn51 (fun w Q h => s51 _ _ _ _ w Q h) h) ?_
        intro v w h
        refine L_nil ?_
        refine B_n ?_
        refine E_n ?_
        refine L_region ?_
        refine L_mv ?_
        refine L_u (P_ad h) ?_
        intro v w h
        refine L_as ?_
        refine L_nil ?_
        refine E_n ?_
        exact L2 _ _ h
    · refine C_exit ?_
      refine E_x ?_
      refine E_x ?_
      refine B_x ?_
      exact J1 _ _ h
  · unfold f53_j1 at h
    refine E_n ?_
    refine wp_seq ?_
    refine L_region ?_
    refine L_mv ?_
    refine L_mv ?_
    refine L_u (N_cl Tryz.func40 rfl nn40 (fun w Q h => s40 _ _ w Q h) h) ?_
    intro v w h
    refine L_mv ?_
    refine L_u (P_ex h) ?_
    intro v w h
    refine L_u (P_ex h) ?_
    intro v w h
    refine L_as ?_
    refine L_as ?_
    refine L_nil ?_
    refine E_n ?_
    refine wp_seq ?_
    refine wp_seq ?_
    refine L_region ?_
    refine L_mv ?_
    refine L_u (P_nei h) ?_
    intro v w h
    refine L_nil ?_
    refine E_n ?_
    refine C_cnd h (fun h => ?_) (fun h => ?_)
    · refine wp_seq ?_
      refine L_region ?_
      refine L_as ?_
      refine L_nil ?_
      refine E_n ?_
      refine C_ret ?_
      show bodyPost Tryz.prog Tryz.f53 (Rt Q) .ret _ _
      exact post_tmps (ts := [6]) (.inr rfl) rfl h
    · refine C_skip ?_
      refine E_n ?_
      refine wp_seq ?_
      refine L_region ?_
      refine L_mv ?_
      refine L_as ?_
      refine L_nil ?_
      refine E_n ?_
      refine C_ret ?_
      show bodyPost Tryz.prog Tryz.f53 (Rt Q) .ret _ _
      exact post_tmps (ts := [6]) (.inr rfl) rfl h

/- factotum/factotumlaw06.PagerCrash -/
def f9_j6 (j3 : Value → Value → Value → Value → Value → Value → Value → Value → M) (t0_4 t1_4 t2_4 t7_3 t8_3 t10_3 t11_3 t12_3 : Value) : M :=
  cl (f49 t8_3 t10_3) fun t123 =>
  nt t123 fun t124 =>
  cnd t124 (
    rt (.bool false)
    ) (
    j3 t0_4 t1_4 t2_4 t7_3 t8_3 t10_3 t11_3 t12_3
    )
def f9_j5 (j3 : Value → Value → Value → Value → Value → Value → Value → Value → M) (t0_3 t1_3 t2_3 t7_2 t8_2 t10_2 t11_2 t12_2 t13_1 t15_1 t16_2 t17 : Value) : M :=
  nei .i64 t17 (.int .i64 0) fun t80 =>
  gd t80 true (idv t17) fun t82 =>
  gd t80 true (nei .i64 t82 (.int .i64 9)) fun t83 =>
  pk t80 t83 (.bool false) fun t84 =>
  gd t84 false (idv t8_2) fun t86 =>
  gd t84 false (idv t10_2) fun t87 =>
  gd t84 false (cl (f49 t86 t87)) fun t88 =>
  gd t84 false (nt t88) fun t89 =>
  pk t84 (.bool true) t89 fun t90 =>
  cnd t90 (
    rt (.bool false)
    ) (
    eqi .i64 t17 (.int .i64 9) fun t92 =>
    gd t92 true (idv t8_2) fun t94 =>
    gd t92 true (idv t13_1) fun t95 =>
    gd t92 true (cl (f44 t94 t95)) fun t96 =>
    gd t92 true (nei .i64 t96 (.int .i64 13)) fun t97 =>
    pk t92 t97 (.bool false) fun t98 =>
    cnd t98 (
      rt (.bool false)
      ) (
      fa 3 t16_2 fun t100 =>
      ld t100 fun t101 =>
      fa 1 t16_2 fun t102 =>
      ld t102 fun t103 =>
      fa 2 t16_2 fun t104 =>
      ld t104 fun t105 =>
      cl (f51 t7_2 t101 t103 t105) fun t106 =>
      cl (f53 t7_2 t0_3 t2_3) fun t110 =>
      smr Tryz.prog (do eqGuard .eql 40 (.tmp 111) (.const (.pointer none)) t110 (.pointer none); binOp .eql 40 t110 (.pointer none)) fun t112 =>
      cnd t112 (
        rt (.bool false)
        ) (
        nei .i64 t17 (.int .i64 0) fun t114 =>
        gd t114 true (idv t110) fun t116 =>
        gd t114 true (idv t15_1) fun t117 =>
        gd t114 true (cl (f49 t116 t117)) fun t118 =>
        pk t114 t118 (.bool false) fun t119 =>
        jn (fun (j6 : Value → Value → Value → Value → Value → Value → Value → Value → M) =>
          cnd t119 (
            j6 t0_3 t1_3 t2_3 t7_2 t110 t15_1 t11_2 t12_2
            ) (
            j6 t0_3 t1_3 t2_3 t7_2 t110 t10_2 t11_2 t12_2
            )
          ) (f9_j6 j3)
        )
      )
    )
def f9_j4 (j3 : Value → Value → Value → Value → Value → Value → Value → Value → M) (t0_2 t1_2 t2_2 t7_1 t8_1 t10_1 t11_1 t12_1 t13 t15 t16_1 : Value) : M :=
  ad .i64 t11_1 (.int .i64 1) fun t68 =>
  fa 0 t16_1 fun t70 =>
  ld t70 fun t71 =>
  cl (f52 t7_1 t71) fun t72 =>
  cl (f44 t8_1 t13) fun t75 =>
  eqi .i64 t75 (.int .i64 0) fun t77 =>
  jn (fun (j5 : Value → Value → Value → Value → Value → Value → Value → Value → Value → Value → Value → Value → M) =>
    cnd t77 (
      j5 t0_2 t1_2 t2_2 t7_1 t8_1 t15 t68 t12_1 t13 t15 t16_1 t75
      ) (
      j5 t0_2 t1_2 t2_2 t7_1 t8_1 t10_1 t68 t12_1 t13 t15 t16_1 t75
      )
    ) (f9_j5 j3)
def f9_j3 (self2 : Value → Value → Value → Value → Value → Value → Value → Value → M) (t0_5 t1_5 t2_5 t7_4 t8_4 t10_4 t11_4 t12_4 : Value) : M :=
  ad .i64 t12_4 (.int .i64 1) fun t42 =>
  self2 t0_5 t1_5 t2_5 t7_4 t8_4 t10_4 t11_4 t42
def f9_b2 (j1 : M) (self2 : Value → Value → Value → Value → Value → Value → Value → Value → M) (t0_1 t1_1 t2_1 t7 t8 t10 t11 t12 : Value) : M :=
  lnl t1_1 fun t39 =>
  lt .i64 t12 t39 fun t40 =>
  cnd t40 (
    jn (fun (j3 : Value → Value → Value → Value → Value → Value → Value → Value → M) =>
      ia 2 t1_1 t12 fun t46 =>
      ldn 2 t46 fun t47 =>
      cl (f42 t47) fun t48 =>
      ex 0 t48 fun t49 =>
      ex 1 t48 fun t50 =>
      cl (f45 t10 t50) fun t53 =>
      nei .i64 t53 (.int .i64 0) fun t54 =>
      cnd t54 (
        j3 t0_1 t1_1 t2_1 t7 t8 t10 t11 t12
        ) (
        cl (f46 t10 t50) fun t57 =>
        smr Tryz.prog (Instr.build 80 #[(0, (.int .i64 (-1)))]) fun t58 =>
        al 80 #[(.int .i64 0), (.int .i64 0), (.int .i64 0), (.slice none 0 0)] fun t16 =>
        stn 4 t16 t58 <|
        lnl t2_1 fun t61 =>
        lt .i64 t11 t61 fun t62 =>
        jn (fun (j4 : Value → Value → Value → Value → Value → Value → Value → Value → Value → Value → Value → M) =>
          cnd t62 (
            ia 4 t2_1 t11 fun t65 =>
            ldn 4 t65 fun t66 =>
            stn 4 t16 t66 <|
            j4 t0_1 t1_1 t2_1 t7 t8 t10 t11 t12 t49 t57 t16
            ) (
            j4 t0_1 t1_1 t2_1 t7 t8 t10 t11 t12 t49 t57 t16
            )
          ) (f9_j4 j3)
        )
      ) (f9_j3 self2)
    ) (
    j1
    )
def f9_j1 : M :=
  rt (.bool true)
def f9 (t0 t1 t2 : Value) : M :=
  cl (f35) fun t18 =>
  nt t18 fun t19 =>
  cnd t19 (
    rt (.bool false)
    ) (
    cl (f36 t0) fun t21 =>
    cl (f37 t1) fun t23 =>
    cl (f39 t21) fun t25 =>
    cl (f38 t25) fun t26 =>
    cl (f40 t26 t21) fun t30 =>
    ex 0 t30 fun t31 =>
    ex 1 t30 fun t32 =>
    nei .i64 t32 (.int .i64 0) fun t34 =>
    cnd t34 (
      rt (.bool false)
      ) (
      cl (f41 t21) fun t36 =>
      jn (fun (j1 : M) =>
        lo (fun _ _ _ _ _ _ _ _ => bot) (f9_b2 j1) (fun l => l t21 t23 t2 t26 t31 t36 (.int .i64 0) (.int .i64 0))
        ) (f9_j1)
      )
    )
theorem s9 (t0 t1 t2 : Value) (w : World) (Q : Value → World → Prop) (h : f9 t0 t1 t2 w Q) : Calls Tryz.prog 9 #[t0, t1, t2] w (Rt Q) := by
  refine calls_of (l := [t0, t1, t2]) Tryz.func9 rfl Tryz.ntmps9 (Nat.le_of_ble_eq_true rfl) ?_
  unfold f9 at h
  refine wp_seq ?_
  refine L_region ?_
  refine L_as ?_
  refine L_nil ?_
  refine E_n ?_
  refine wp_seq ?_
  refine wp_seq ?_
  refine L_region ?_
  refine L_u (N_cl Tryz.func35 rfl nn35 (fun w Q h => s35 w Q h) h) ?_
  intro v w h
  refine L_u (P_nt h) ?_
  intro v w h
  refine L_nil ?_
  refine E_n ?_
  refine C_cnd h (fun h => ?_) (fun h => ?_)
  · refine wp_seq ?_
    refine L_region ?_
    refine L_as ?_
    refine L_nil ?_
    refine E_n ?_
    refine C_ret ?_
    show bodyPost Tryz.prog Tryz.f9 (Rt Q) .ret _ _
    exact post_tmps (ts := [6]) (.inr rfl) rfl h
  · refine C_skip ?_
    refine E_n ?_
    refine wp_seq ?_
    refine L_region ?_
    refine L_mv ?_
    refine L_u (N_cl Tryz.func36 rfl nn36 (fun w Q h => s36 _ w Q h) h) ?_
    intro v w h
    refine L_as ?_
    refine L_nil ?_
    refine E_n ?_
    refine wp_seq ?_
    refine L_region ?_
    refine L_mv ?_
    refine L_u (N_cl Tryz.func37 rfl nn37 (fun w Q h => s37 _ w Q h) h) ?_
    intro v w h
    refine L_as ?_
    refine L_nil ?_
    refine E_n ?_
    refine wp_seq ?_
    refine L_region ?_
    refine L_mv ?_
    refine L_u (N_cl Tryz.func39 rfl nn39 (fun w Q h => s39 _ w Q h) h) ?_
    intro v w h
    refine L_u (N_cl Tryz.func38 rfl nn38 (fun w Q h => s38 _ w Q h) h) ?_
    intro v w h
    refine L_as ?_
    refine L_nil ?_
    refine E_n ?_
    refine wp_seq ?_
    refine L_region ?_
    refine L_mv ?_
    refine L_mv ?_
    refine L_u (N_cl Tryz.func40 rfl nn40 (fun w Q h => s40 _ _ w Q h) h) ?_
    intro v w h
    refine L_mv ?_
    refine L_u (P_ex h) ?_
    intro v w h
    refine L_u (P_ex h) ?_
    intro v w h
    refine L_as ?_
    refine L_as ?_
    refine L_nil ?_
    refine E_n ?_
    refine wp_seq ?_
    refine wp_seq ?_
    refine L_region ?_
    refine L_mv ?_
    refine L_u (P_nei h) ?_
    intro v w h
    refine L_nil ?_
    refine E_n ?_
    refine C_cnd h (fun h => ?_) (fun h => ?_)
    · refine wp_seq ?_
      refine L_region ?_
      refine L_as ?_
      refine L_nil ?_
      refine E_n ?_
      refine C_ret ?_
      show bodyPost Tryz.prog Tryz.f9 (Rt Q) .ret _ _
      exact post_tmps (ts := [6]) (.inr rfl) rfl h
    · refine C_skip ?_
      refine E_n ?_
      refine wp_seq ?_
      refine L_region ?_
      refine L_mv ?_
      refine L_u (N_cl Tryz.func41 rfl nn41 (fun w Q h => s41 _ w Q h) h) ?_
      intro v w h
      refine L_as ?_
      refine L_nil ?_
      refine E_n ?_
      refine wp_seq ?_
      refine L_region ?_
      refine L_as ?_
      refine L_nil ?_
      refine E_n ?_
      refine wp_seq ?_
      refine wp_seq ?_
      refine L_region ?_
      refine L_as ?_
      refine L_nil ?_
      refine E_n ?_
      refine C_join (fun (k : M) (ρ : Nat → Value) => k) h (fun j1 J1 h => ?_) (fun ρ w h => ?_)
      · refine C_blk ?_
        refine C_lo (fun (l : Value → Value → Value → Value → Value → Value → Value → Value → M) (ρ : Nat → Value) => l (ρ 0) (ρ 1) (ρ 2) (ρ 7) (ρ 8) (ρ 10) (ρ 11) (ρ 12)) h (fun ρ w h => h) (fun nx self2 L2 ρ w h => ?_)
        unfold f9_b2 at h
        refine wp_seq ?_
        refine wp_seq ?_
        refine L_region ?_
        refine L_mv ?_
        refine L_mv ?_
        refine L_u (P_lnl is61 h) ?_
        intro v w h
        refine L_u (P_lt h) ?_
        intro v w h
        refine L_nil ?_
        refine E_n ?_
        refine C_cnd h (fun h => ?_) (fun h => ?_)
        · refine C_skip ?_
          refine E_n ?_
          refine wp_seq ?_
          refine C_join (fun (k : Value → Value → Value → Value → Value → Value → Value → Value → M) (ρ : Nat → Value) => k (ρ 0) (ρ 1) (ρ 2) (ρ 7) (ρ 8) (ρ 10) (ρ 11) (ρ 12)) h (fun j3 J3 h => ?_) (fun ρ w h => ?_)
          · refine C_blk ?_
            refine wp_seq ?_
            refine L_region ?_
            refine L_mv ?_
            refine L_mv ?_
            refine L_u (P_ia se61 h) ?_
            intro v w h
            refine L_u (P_ldn ag72 h) ?_
            intro v w h
            refine L_u (N_cl Tryz.func42 rfl nn42 (fun w Q h => s42 _ w Q h) h) ?_
            intro v w h
            refine L_mv ?_
            refine L_u (P_ex h) ?_
            intro v w h
            refine L_u (P_ex h) ?_
            intro v w h
            refine L_as ?_
            refine L_as ?_
            refine L_nil ?_
            refine E_n ?_
            refine wp_seq ?_
            refine wp_seq ?_
            refine L_region ?_
            refine L_mv ?_
            refine L_mv ?_
            refine L_u (N_cl Tryz.func45 rfl nn45 (fun w Q h => s45 _ _ w Q h) h) ?_
            intro v w h
            refine L_u (P_nei h) ?_
            intro v w h
            refine L_nil ?_
            refine E_n ?_
            refine C_cnd h (fun h => ?_) (fun h => ?_)
            · refine C_exit ?_
              refine E_x ?_
              refine B_x ?_
              exact J3 _ _ h
            · refine C_skip ?_
              refine E_n ?_
              refine wp_seq ?_
              refine L_region ?_
              refine L_mv ?_
              refine L_mv ?_
              refine L_u (N_cl Tryz.func46 rfl nn46 (fun w Q h => s46 _ _ w Q h) h) ?_
              intro v w h
              refine L_as ?_
              refine L_nil ?_
              refine E_n ?_
              refine wp_seq ?_
              refine L_region ?_
              refine L_u (N_bld h) ?_
              intro v w h
              refine L_u (P_al ze80 rfl h) ?_
              intro v w h
              refine L_u (P_stn ag80 h) ?_
              intro w h
              refine L_nil ?_
              refine E_n ?_
              refine wp_seq ?_
              refine wp_seq ?_
              refine L_region ?_
              refine L_mv ?_
              refine L_mv ?_
              refine L_u (P_lnl is83 h) ?_
              intro v w h
              refine L_u (P_lt h) ?_
              intro v w h
              refine L_nil ?_
              refine E_n ?_
              refine C_join (fun (k : Value → Value → Value → Value → Value → Value → Value → Value → Value → Value → Value → M) (ρ : Nat → Value) => k (ρ 0) (ρ 1) (ρ 2) (ρ 7) (ρ 8) (ρ 10) (ρ 11) (ρ 12) (ρ 13) (ρ 15) (ρ 16)) h (fun j4 J4 h => ?_) (fun ρ w h => ?_)
              · refine C_cnd h (fun h => ?_) (fun h => ?_)
                · refine L_region ?_
                  refine L_mv ?_
                  refine L_mv ?_
                  refine L_u (P_ia se83 h) ?_
                  intro v w h
                  refine L_u (P_ldn ag80 h) ?_
                  intro v w h
                  refine L_u (P_stn ag80 h) ?_
                  intro w h
                  refine L_nil ?_
                  exact J4 _ _ h
                · refine C_skip ?_
                  exact J4 _ _ h
              · unfold f9_j4 at h
                refine E_n ?_
                refine wp_seq ?_
                refine L_region ?_
                refine L_mv ?_
                refine L_u (P_ad h) ?_
                intro v w h
                refine L_as ?_
                refine L_nil ?_
                refine E_n ?_
                refine wp_seq ?_
                refine L_region ?_
                refine L_mv ?_
                refine L_u (P_fa fo80_0 h) ?_
                intro v w h
                refine L_u (P_ld sc3 h) ?_
                intro v w h
                refine L_u (N_cl Tryz.func52 rfl nn52 (fun w Q h => s52 _ _ w Q h) h) ?_
                intro v w h
                refine L_nil ?_
                refine E_n ?_
                refine wp_seq ?_
                refine L_region ?_
                refine L_mv ?_
                refine L_mv ?_
                refine L_u (N_cl Tryz.func44 rfl nn44 (fun w Q h => s44 _ _ w Q h) h) ?_
                intro v w h
                refine L_as ?_
                refine L_nil ?_
                refine E_n ?_
                refine wp_seq ?_
                refine wp_seq ?_
                refine L_region ?_
                refine L_mv ?_
                refine L_u (P_eqi h) ?_
                intro v w h
                refine L_nil ?_
                refine E_n ?_
                refine C_join (fun (k : Value → Value → Value → Value → Value → Value → Value → Value → Value → Value → Value → Value → M) (ρ : Nat → Value) => k (ρ 0) (ρ 1) (ρ 2) (ρ 7) (ρ 8) (ρ 10) (ρ 11) (ρ 12) (ρ 13) (ρ 15) (ρ 16) (ρ 17)) h (fun j5 J5 h => ?_) (fun ρ w h => ?_)
                · refine C_cnd h (fun h => ?_) (fun h => ?_)
                  · refine L_region ?_
                    refine L_mv ?_
                    refine L_as ?_
                    refine L_nil ?_
                    exact J5 _ _ h
                  · refine C_skip ?_
                    exact J5 _ _ h
                · unfold f9_j5 at h
                  refine E_n ?_
                  refine wp_seq ?_
                  refine wp_seq ?_
                  refine L_region ?_
                  refine L_mv ?_
                  refine L_u (P_nei h) ?_
                  intro v w h
                  refine L_mv ?_
                  refine L_g (t := 81) h rfl rfl (fun c h => P_mv h c) ?_
                  intro v w h
                  refine L_g (t := 81) h rfl rfl (fun c h => P_nei h c) ?_
                  intro v w h
                  refine L_u (P_pk h) ?_
                  intro v w h
                  refine L_mv ?_
                  refine L_g (t := 85) h rfl rfl (fun c h => P_mv h c) ?_
                  intro v w h
                  refine L_g (t := 85) h rfl rfl (fun c h => P_mv h c) ?_
                  intro v w h
                  refine L_g (t := 85) h rfl rfl (fun c h => N_cl Tryz.func49 rfl nn49 (fun w Q h => s49 _ _ w Q h) h c) ?_
                  intro v w h
                  refine L_g (t := 85) h rfl rfl (fun c h => P_nt h c) ?_
                  intro v w h
                  refine L_u (P_pk h) ?_
                  intro v w h
                  refine L_nil ?_
                  refine E_n ?_
                  refine C_cnd h (fun h => ?_) (fun h => ?_)
                  · refine wp_seq ?_
                    refine L_region ?_
                    refine L_as ?_
                    refine L_nil ?_
                    refine E_n ?_
                    refine C_ret ?_
                    show bodyPost Tryz.prog Tryz.f9 (Rt Q) .ret _ _
                    exact post_tmps (ts := [6]) (.inr rfl) rfl h
                  · refine C_skip ?_
                    refine E_n ?_
                    refine wp_seq ?_
                    refine wp_seq ?_
                    refine L_region ?_
                    refine L_mv ?_
                    refine L_u (P_eqi h) ?_
                    intro v w h
                    refine L_mv ?_
                    refine L_g (t := 93) h rfl rfl (fun c h => P_mv h c) ?_
                    intro v w h
                    refine L_g (t := 93) h rfl rfl (fun c h => P_mv h c) ?_
                    intro v w h
                    refine L_g (t := 93) h rfl rfl (fun c h => N_cl Tryz.func44 rfl nn44 (fun w Q h => s44 _ _ w Q h) h c) ?_
                    intro v w h
                    refine L_g (t := 93) h rfl rfl (fun c h => P_nei h c) ?_
                    intro v w h
                    refine L_u (P_pk h) ?_
                    intro v w h
                    refine L_nil ?_
                    refine E_n ?_
                    refine C_cnd h (fun h => ?_) (fun h => ?_)
                    · refine wp_seq ?_
                      refine L_region ?_
                      refine L_as ?_
                      refine L_nil ?_
                      refine E_n ?_
                      refine C_ret ?_
                      show bodyPost Tryz.prog Tryz.f9 (Rt Q) .ret _ _
                      exact post_tmps (ts := [6]) (.inr rfl) rfl h
                    · refine C_skip ?_
                      refine E_n ?_
                      refine wp_seq ?_
                      refine L_region ?_
                      refine L_mv ?_
                      refine L_u (P_fa fo80_3 h) ?_
                      intro v w h
                      refine L_u (P_ld sc78 h) ?_
                      intro v w h
                      refine L_u (P_fa fo80_1 h) ?_
                      intro v w h
                      refine L_u (P_ld sc3 h) ?_
                      intro v w h
                      refine L_u (P_fa fo80_2 h) ?_
                      intro v w h
                      refine L_u (P_ld sc3 h) ?_
                      intro v w h
                      refine L_u (N_cl Tryz.func51 rfl nn51 (fun w Q h => s51 _ _ _ _ w Q h) h) ?_
                      intro v w h
                      refine L_nil ?_
                      refine E_n ?_
                      refine wp_seq ?_
                      refine L_region ?_
                      refine L_mv ?_
                      refine L_mv ?_
                      refine L_mv ?_
                      refine L_u (N_cl Tryz.func53 rfl nn53 (fun w Q h => s53 _ _ _ w Q h) h) ?_
                      intro v w h
                      refine L_as ?_
                      refine L_nil ?_
                      refine E_n ?_
                      refine wp_seq ?_
                      refine wp_seq ?_
                      refine L_region ?_
                      refine L_mv ?_
                      refine L_u (P_smr rfl h) ?_
                      intro v w h
                      refine L_nil ?_
                      refine E_n ?_
                      refine C_cnd h (fun h => ?_) (fun h => ?_)
                      · refine wp_seq ?_
                        refine L_region ?_
                        refine L_as ?_
                        refine L_nil ?_
                        refine E_n ?_
                        refine C_ret ?_
                        show bodyPost Tryz.prog Tryz.f9 (Rt Q) .ret _ _
                        exact post_tmps (ts := [6]) (.inr rfl) rfl h
                      · refine C_skip ?_
                        refine E_n ?_
                        refine wp_seq ?_
                        refine wp_seq ?_
                        refine L_region ?_
                        refine L_mv ?_
                        refine L_u (P_nei h) ?_
                        intro v w h
                        refine L_mv ?_
                        refine L_g (t := 115) h rfl rfl (fun c h => P_mv h c) ?_
                        intro v w h
                        refine L_g (t := 115) h rfl rfl (fun c h => P_mv h c) ?_
                        intro v w h
                        refine L_g (t := 115) h rfl rfl (fun c h => N_cl Tryz.func49 rfl nn49 (fun w Q h => s49 _ _ w Q h) h c) ?_
                        intro v w h
                        refine L_u (P_pk h) ?_
                        intro v w h
                        refine L_nil ?_
                        refine E_n ?_
                        refine C_join (fun (k : Value → Value → Value → Value → Value → Value → Value → Value → M) (ρ : Nat → Value) => k (ρ 0) (ρ 1) (ρ 2) (ρ 7) (ρ 8) (ρ 10) (ρ 11) (ρ 12)) h (fun j6 J6 h => ?_) (fun ρ w h => ?_)
                        · refine C_cnd h (fun h => ?_) (fun h => ?_)
                          · refine L_region ?_
                            refine L_mv ?_
                            refine L_as ?_
                            refine L_nil ?_
                            exact J6 _ _ h
                          · refine C_skip ?_
                            exact J6 _ _ h
                        · unfold f9_j6 at h
                          refine E_n ?_
                          refine wp_seq ?_
                          refine L_region ?_
                          refine L_mv ?_
                          refine L_mv ?_
                          refine L_u (N_cl Tryz.func49 rfl nn49 (fun w Q h => s49 _ _ w Q h) h) ?_
                          intro v w h
                          refine L_u (P_nt h) ?_
                          intro v w h
                          refine L_nil ?_
                          refine E_n ?_
                          refine C_cnd h (fun h => ?_) (fun h => ?_)
                          · refine wp_seq ?_
                            refine L_region ?_
                            refine L_as ?_
                            refine L_nil ?_
                            refine E_n ?_
                            refine C_ret ?_
                            show bodyPost Tryz.prog Tryz.f9 (Rt Q) .ret _ _
                            exact post_tmps (ts := [6]) (.inr rfl) rfl h
                          · refine C_skip ?_
                            refine B_n ?_
                            exact J3 _ _ h
          · unfold f9_j3 at h
            refine E_n ?_
            refine L_region ?_
            refine L_mv ?_
            refine L_u (P_ad h) ?_
            intro v w h
            refine L_as ?_
            refine L_nil ?_
            refine E_n ?_
            exact L2 _ _ h
        · refine C_exit ?_
          refine E_x ?_
          refine E_x ?_
          refine B_x ?_
          exact J1 _ _ h
      · unfold f9_j1 at h
        refine E_n ?_
        refine wp_seq ?_
        refine L_region ?_
        refine L_as ?_
        refine L_nil ?_
        refine E_n ?_
        refine C_ret ?_
        show bodyPost Tryz.prog Tryz.f9 (Rt Q) .ret _ _
        exact post_tmps (ts := [6]) (.inr rfl) rfl h

/- factotum/factotumref08.Begin -/
def f58 (t0 : Value) : M :=
  dr <|
  idv t0 fun t3 =>
  nc t3 fun t4 =>
  fa 0 t4 fun t5 =>
  ld t5 fun t6 =>
  idv t0 fun t8 =>
  nc t8 fun t9 =>
  fa 0 t9 fun t10 =>
  ld t10 fun t11 =>
  sm Tryz.prog (Builtin.append_ #[100, 100] 100 #[(.slice none 0 0), t6]) fun t7 =>
  kp (Kld t10 t11) <|
  sm Tryz.prog (Builtin.append_ #[100, 100] 100 #[(.slice none 0 0), t11]) fun t12 =>
  smr Tryz.prog (Instr.build 151 #[(0, t7), (1, t12)]) fun t13 =>
  bx 151 t13 fun t14 =>
  idv t14 fun t2 =>
  rt t2
theorem s58 (t0 : Value) (w : World) (Q : Value → World → Prop) (h : f58 t0 w Q) : Calls Tryz.prog 58 #[t0] w (Rt Q) := by
  refine calls_of (l := [t0]) Tryz.func58 rfl Tryz.ntmps58 (Nat.le_of_ble_eq_true rfl) ?_
  unfold f58 at h
  refine wp_seq ?_
  refine L_region ?_
  refine L_as ?_
  refine L_nil ?_
  refine E_n ?_
  refine wp_seq ?_
  refine D_region (by decide +kernel) 13 rfl ?_
  replace h := dr_e h
  refine G_p 0 rfl (by decide +kernel) (Y_mv h) ?_
  intro v h
  refine G_p 1 rfl (by decide +kernel) (Y_nc h) ?_
  intro v h
  refine G_p 2 rfl (by decide +kernel) (Y_fa fo102_0 h) ?_
  intro v h
  refine G_r _ 3 rfl (by decide +kernel) (R_ld sc100 h) ?_
  intro v h
  refine G_p 5 rfl (by decide +kernel) (Y_mv h) ?_
  intro v h
  refine G_p 6 rfl (by decide +kernel) (Y_nc h) ?_
  intro v h
  refine G_p 7 rfl (by decide +kernel) (Y_fa fo102_0 h) ?_
  intro v h
  refine G_r _ 8 rfl (by decide +kernel) (R_ld sc100 h) ?_
  intro v h
  refine G_e 4 rfl (by decide +kernel) (N_bi rfl h ?_)
  intro v w h
  refine ⟨keepF_cons (kp_1 h) (keepF_dep [3] (by decide +kernel) rfl keepF_nil), ?_⟩
  replace h := (kp_2 h)
  refine G_e 9 rfl (by decide +kernel) (N_bi rfl h ?_)
  intro v w h
  refine ⟨keepF_dep [8] (by decide +kernel) rfl (keepF_dep [4, 3] (by decide +kernel) rfl keepF_nil), ?_⟩
  refine G_r _ 10 rfl (by decide +kernel) (R_bld h) ?_
  intro v h
  refine G_e 11 rfl (by decide +kernel) (P_bx h ?_)
  intro v w h
  refine ⟨keepF_dep [10] (by decide +kernel) rfl (keepF_dep [10, 9, 8] (by decide +kernel) rfl (keepF_dep [10, 4, 3] (by decide +kernel) rfl keepF_nil)), ?_⟩
  refine G_p 12 rfl (by decide +kernel) (Y_as h) ?_
  intro v h
  refine G_done (by decide +kernel) ?_
  refine E_n ?_
  refine C_ret ?_
  show bodyPost Tryz.prog Tryz.f58 (Rt Q) .ret _ _
  exact post_tmps (ts := [2]) (.inr rfl) rfl h

/- factotum/factotumlaw08.begin -/
def f54 (t0 : Value) : M :=
  cl (f17 t0) fun t8 =>
  cl (f41 t0) fun t10 =>
  smr Tryz.prog (Instr.build 96 #[(0, t8), (2, t10)]) fun t11 =>
  bx 96 t11 fun t12 =>
  nc t12 fun t15 =>
  fa 0 t15 fun t16 =>
  ld t16 fun t17 =>
  cl (f16 t17) fun t18 =>
  ex 0 t18 fun t19 =>
  ex 1 t18 fun t20 =>
  nc t12 fun t23 =>
  fa 1 t23 fun t24 =>
  st t24 t19 <|
  nc t12 fun t27 =>
  fa 2 t27 fun t28 =>
  ld t28 fun t29 =>
  cl (f58 t29) fun t30 =>
  nc t12 fun t31 =>
  fa 3 t31 fun t32 =>
  st t32 t30 <|
  eqi .i64 t20 (.int .i64 0) fun t35 =>
  gd t35 true (idv t19) fun t37 =>
  gd t35 true (smr Tryz.prog (do eqGuard .neq 25 (.tmp 37) (.const (.pointer none)) t37 (.pointer none); binOp .neq 25 t37 (.pointer none))) fun t38 =>
  pk t35 t38 (.bool false) fun t39 =>
  rt (.tuple #[t12, t39])
theorem s54 (t0 : Value) (w : World) (Q : Value → World → Prop) (h : f54 t0 w Q) : Calls Tryz.prog 54 #[t0] w (Rt Q) := by
  refine calls_of (l := [t0]) Tryz.func54 rfl Tryz.ntmps54 (Nat.le_of_ble_eq_true rfl) ?_
  unfold f54 at h
  refine wp_seq ?_
  refine L_region ?_
  refine L_as ?_
  refine L_as ?_
  refine L_nil ?_
  refine E_n ?_
  refine wp_seq ?_
  refine L_region ?_
  refine L_mv ?_
  refine L_u (N_cl Tryz.func17 rfl nn17 (fun w Q h => s17 _ w Q h) h) ?_
  intro v w h
  refine L_mv ?_
  refine L_u (N_cl Tryz.func41 rfl nn41 (fun w Q h => s41 _ w Q h) h) ?_
  intro v w h
  refine L_u (N_bld h) ?_
  intro v w h
  refine L_u (P_bx h) ?_
  intro v w h
  refine L_as ?_
  refine L_nil ?_
  refine E_n ?_
  refine wp_seq ?_
  refine L_region ?_
  refine L_mv ?_
  refine L_u (P_nc h) ?_
  intro v w h
  refine L_u (P_fa fo96_0 h) ?_
  intro v w h
  refine L_u (P_ld sc29 h) ?_
  intro v w h
  refine L_u (N_cl Tryz.func16 rfl nn16 (fun w Q h => s16 _ w Q h) h) ?_
  intro v w h
  refine L_mv ?_
  refine L_u (P_ex h) ?_
  intro v w h
  refine L_u (P_ex h) ?_
  intro v w h
  refine L_as ?_
  refine L_as ?_
  refine L_nil ?_
  refine E_n ?_
  refine wp_seq ?_
  refine L_region ?_
  refine L_mv ?_
  refine L_mv ?_
  refine L_u (P_nc h) ?_
  intro v w h
  refine L_u (P_fa fo96_1 h) ?_
  intro v w h
  refine L_u (P_st on25 h) ?_
  intro w h
  refine L_nil ?_
  refine E_n ?_
  refine wp_seq ?_
  refine L_region ?_
  refine L_mv ?_
  refine L_mv ?_
  refine L_u (P_nc h) ?_
  intro v w h
  refine L_u (P_fa fo96_2 h) ?_
  intro v w h
  refine L_u (P_ld sc67 h) ?_
  intro v w h
  refine L_u (N_cl Tryz.func58 rfl nn58 (fun w Q h => s58 _ w Q h) h) ?_
  intro v w h
  refine L_u (P_nc h) ?_
  intro v w h
  refine L_u (P_fa fo96_3 h) ?_
  intro v w h
  refine L_u (P_st on94 h) ?_
  intro w h
  refine L_nil ?_
  refine E_n ?_
  refine wp_seq ?_
  refine L_region ?_
  refine L_mv ?_
  refine L_mv ?_
  refine L_u (P_eqi h) ?_
  intro v w h
  refine L_mv ?_
  refine L_g (t := 36) h rfl rfl (fun c h => P_mv h c) ?_
  intro v w h
  refine L_g (t := 36) h rfl rfl (fun c h => P_smr rfl h c) ?_
  intro v w h
  refine L_u (P_pk h) ?_
  intro v w h
  refine L_as ?_
  refine L_as ?_
  refine L_nil ?_
  refine E_n ?_
  refine C_ret ?_
  show bodyPost Tryz.prog Tryz.f54 (Rt Q) .ret _ _
  exact post_tmps (ts := [2, 3]) (.inr rfl) rfl h

/- factotum/factotumlaw08.early -/
def f55 (t0 : Value) : M :=
  lnl t0 fun t5 =>
  mnm t5 (.int .i64 200) fun t6 =>
  sll 3 t0 none (some t6) fun t7 =>
  rt t7
theorem s55 (t0 : Value) (w : World) (Q : Value → World → Prop) (h : f55 t0 w Q) : Calls Tryz.prog 55 #[t0] w (Rt Q) := by
  refine calls_of (l := [t0]) Tryz.func55 rfl Tryz.ntmps55 (Nat.le_of_ble_eq_true rfl) ?_
  unfold f55 at h
  refine wp_seq ?_
  refine L_region ?_
  refine L_as ?_
  refine L_nil ?_
  refine E_n ?_
  refine wp_seq ?_
  refine L_region ?_
  refine L_mv ?_
  refine L_mv ?_
  refine L_u (P_lnl is86 h) ?_
  intro v w h
  refine L_u (P_mnm (t := 0) h) ?_
  intro v w h
  refine L_u (P_sll se86 h) ?_
  intro v w h
  refine L_as ?_
  refine L_nil ?_
  refine E_n ?_
  refine C_ret ?_
  show bodyPost Tryz.prog Tryz.f55 (Rt Q) .ret _ _
  exact post_tmps (ts := [2]) (.inr rfl) rfl h

/- (factotum/factotumlaw08.Op).kind -/
def f56 (t0 : Value) : M :=
  bx 92 t0 fun t1 =>
  fa 0 t1 fun t3 =>
  ld t3 fun t4 =>
  cv .u64 t4 fun t5 =>
  re .u64 t5 (.int .u64 8) fun t6 =>
  cv .i64 t6 fun t7 =>
  rt t7
theorem s56 (t0 : Value) (w : World) (Q : Value → World → Prop) (h : f56 t0 w Q) : Calls Tryz.prog 56 #[t0] w (Rt Q) := by
  refine calls_of (l := [t0]) Tryz.func56 rfl Tryz.ntmps56 (Nat.le_of_ble_eq_true rfl) ?_
  unfold f56 at h
  refine wp_seq ?_
  refine L_region ?_
  refine L_u (P_bx h) ?_
  intro v w h
  refine L_as ?_
  refine L_nil ?_
  refine E_n ?_
  refine wp_seq ?_
  refine L_region ?_
  refine L_u (P_fa fo92_0 h) ?_
  intro v w h
  refine L_u (P_ld sc3 h) ?_
  intro v w h
  refine L_u (P_cv ai3 in37 h) ?_
  intro v w h
  refine L_u (P_re h) ?_
  intro v w h
  refine L_u (P_cv ai37 in3 h) ?_
  intro v w h
  refine L_as ?_
  refine L_nil ?_
  refine E_n ?_
  refine C_ret ?_
  show bodyPost Tryz.prog Tryz.f56 (Rt Q) .ret _ _
  exact post_tmps (ts := [2]) (.inr rfl) rfl h

/- (factotum/space.state).copy -/
def f105 (t0 : Value) : M :=
  bx 110 t0 fun t1 =>
  al 110 #[(.int .u8 0), (.int .u8 0), (.int .u8 0), (.int .u8 0), (.int .u8 0), (.int .u8 0), (.int .u8 0), (.int .u8 0), (.int .u8 0), (.int .u8 0), (.int .u8 0), (.int .u8 0), (.int .u8 0), (.int .u8 0), (.int .u8 0), (.int .u8 0), (.int .u8 0), (.int .u8 0), (.int .u8 0), (.int .u8 0), (.string ⟨#[]⟩), (.map none)] fun t2 =>
  fa 21 t1 fun t3 =>
  ld t3 fun t4 =>
  cc Tryz.prog 127 #[t4] fun t5 =>
  fa 21 t1 fun t6 =>
  st t6 t5 <|
  ldn 22 t1 fun t7 =>
  stn 22 t2 t7 <|
  ldn 22 t2 fun r0 =>
  rt r0
theorem s105 (t0 : Value) (w : World) (Q : Value → World → Prop) (h : f105 t0 w Q) : Calls Tryz.prog 105 #[t0] w (Rt Q) := by
  refine calls_of (l := [t0]) Tryz.func105 rfl Tryz.ntmps105 (Nat.le_of_ble_eq_true rfl) ?_
  unfold f105 at h
  refine wp_seq ?_
  refine L_region ?_
  refine L_u (P_bx h) ?_
  intro v w h
  refine L_u (P_al ze110 rfl h) ?_
  intro v w h
  refine L_nil ?_
  refine E_n ?_
  refine wp_seq ?_
  refine L_region ?_
  refine L_u (P_fa fo110_2 h) ?_
  intro v w h
  refine L_u (P_ld sc107 h) ?_
  intro v w h
  refine L_u (N_cc Tryz.func127 rfl nn127 h) ?_
  intro v w h
  refine L_u (P_fa fo110_2 h) ?_
  intro v w h
  refine L_u (P_st on107 h) ?_
  intro w h
  refine L_nil ?_
  refine E_n ?_
  refine wp_seq ?_
  refine L_region ?_
  refine L_u (P_ldn ag110 h) ?_
  intro v w h
  refine L_u (P_stn ag110 h) ?_
  intro w h
  refine L_nil ?_
  refine E_n ?_
  refine C_ret ?_
  show bodyPost Tryz.prog Tryz.f105 (Rt Q) .ret _ _
  refine post_res [.cell 2 110] (.inr rfl) rfl ?_
  refine res_ldn 2 110 ag110 (by exact h) (fun _ hr0 h => ?_)
  exact ⟨[_], ⟨hr0, trivial⟩, h⟩

/- (*factotum/space.Work).Save -/
def f64 (t0 : Value) : M :=
  cl (f70 t0) fun t4 =>
  nei .i64 t4 (.int .i64 0) fun t5 =>
  cnd t5 (
    rt (.int .i64 0)
    ) (
    dr <|
    idv t0 fun t6 =>
    idv t0 fun t7 =>
    nc t7 fun t8 =>
    fa 23 t8 fun t9 =>
    ld t9 fun t10 =>
    idv t0 fun t11 =>
    nc t11 fun t12 =>
    fa 1 t12 fun t13 =>
    ldn 22 t13 fun t14 =>
    cl (f105 t14) fun t15 =>
    kp (Kld t9 t10) <|
    sm Tryz.prog (Instr.buildSlice 111 1 #[(0, t15)]) fun t16 =>
    kp (Kld t9 t10) <|
    sm Tryz.prog (Builtin.append_ #[111, 111] 111 #[t10, t16]) fun t17 =>
    nc t6 fun t18 =>
    fa 23 t18 fun t19 =>
    st t19 t17 <|
    nc t0 fun t21 =>
    fa 23 t21 fun t22 =>
    ld t22 fun t23 =>
    lnl t23 fun t24 =>
    su .i64 t24 (.int .i64 1) fun t25 =>
    rt t25
    )
theorem s64 (t0 : Value) (w : World) (Q : Value → World → Prop) (h : f64 t0 w Q) : Calls Tryz.prog 64 #[t0] w (Rt Q) := by
  refine calls_of (l := [t0]) Tryz.func64 rfl Tryz.ntmps64 (Nat.le_of_ble_eq_true rfl) ?_
  unfold f64 at h
  refine wp_seq ?_
  refine L_region ?_
  refine L_as ?_
  refine L_nil ?_
  refine E_n ?_
  refine wp_seq ?_
  refine wp_seq ?_
  refine L_region ?_
  refine L_mv ?_
  refine L_u (N_cl Tryz.func70 rfl nn70 (fun w Q h => s70 _ w Q h) h) ?_
  intro v w h
  refine L_u (P_nei h) ?_
  intro v w h
  refine L_nil ?_
  refine E_n ?_
  refine C_cnd h (fun h => ?_) (fun h => ?_)
  · refine wp_seq ?_
    refine L_region ?_
    refine L_as ?_
    refine L_nil ?_
    refine E_n ?_
    refine C_ret ?_
    show bodyPost Tryz.prog Tryz.f64 (Rt Q) .ret _ _
    exact post_tmps (ts := [2]) (.inr rfl) rfl h
  · refine C_skip ?_
    refine E_n ?_
    refine wp_seq ?_
    refine D_region (by decide +kernel) 15 rfl ?_
    replace h := dr_e h
    refine G_p 0 rfl (by decide +kernel) (Y_mv h) ?_
    intro v h
    refine G_p 1 rfl (by decide +kernel) (Y_mv h) ?_
    intro v h
    refine G_p 2 rfl (by decide +kernel) (Y_nc h) ?_
    intro v h
    refine G_p 3 rfl (by decide +kernel) (Y_fa fo113_2 h) ?_
    intro v h
    refine G_r _ 4 rfl (by decide +kernel) (R_ld sc111 h) ?_
    intro v h
    refine G_p 5 rfl (by decide +kernel) (Y_mv h) ?_
    intro v h
    refine G_p 6 rfl (by decide +kernel) (Y_nc h) ?_
    intro v h
    refine G_p 7 rfl (by decide +kernel) (Y_fa fo113_1 h) ?_
    intro v h
    refine G_r _ 8 rfl (by decide +kernel) (R_ldn ag110 h) ?_
    intro v h
    refine G_e 9 rfl (by decide +kernel) (N_cl Tryz.func105 rfl nn105 (fun w Q h => s105 _ w Q h) h ?_)
    intro v w h
    refine ⟨keepF_dep [8] (by decide +kernel) rfl (keepF_cons (kp_1 h) keepF_nil), ?_⟩
    replace h := (kp_2 h)
    refine G_e 10 rfl (by decide +kernel) (N_bsl h ?_)
    intro v w h
    refine ⟨keepF_dep [9, 8] (by decide +kernel) rfl (keepF_cons (kp_1 h) keepF_nil), ?_⟩
    replace h := (kp_2 h)
    refine G_e 11 rfl (by decide +kernel) (N_bi rfl h ?_)
    intro v w h
    refine ⟨keepF_dep [9, 8] (by decide +kernel) rfl (keepF_dep [4] (by decide +kernel) rfl keepF_nil), ?_⟩
    refine G_p 12 rfl (by decide +kernel) (Y_nc h) ?_
    intro v h
    refine G_p 13 rfl (by decide +kernel) (Y_fa fo113_2 h) ?_
    intro v h
    refine G_e 14 rfl (by decide +kernel) (P_st on111 h ?_)
    intro w h
    refine ⟨keepF_dep [8] (by decide +kernel) rfl (keepF_dep [4] (by decide +kernel) rfl keepF_nil), ?_⟩
    refine G_done (by decide +kernel) ?_
    refine E_n ?_
    refine wp_seq ?_
    refine L_region ?_
    refine L_mv ?_
    refine L_u (P_nc h) ?_
    intro v w h
    refine L_u (P_fa fo113_2 h) ?_
    intro v w h
    refine L_u (P_ld sc111 h) ?_
    intro v w h
    refine L_u (P_lnl is111 h) ?_
    intro v w h
    refine L_u (P_su h) ?_
    intro v w h
    refine L_as ?_
    refine L_nil ?_
    refine E_n ?_
    refine C_ret ?_
    show bodyPost Tryz.prog Tryz.f64 (Rt Q) .ret _ _
    exact post_tmps (ts := [2]) (.inr rfl) rfl h

/- (*factotum/space.Work).Read -/
def f65 (t0 t1 : Value) : M :=
  cl (f74 t0 t1) fun t11 =>
  nei .i64 t11 (.int .i64 0) fun t13 =>
  cnd t13 (
    rt (.tuple #[(.string ⟨#[]⟩), t11])
    ) (
    nc t0 fun t17 =>
    fa 1 t17 fun t18 =>
    fa 21 t18 fun t19 =>
    ld t19 fun t20 =>
    smr Tryz.prog (Instr.lookup 107 t20 t1 true) fun t22 =>
    ex 0 t22 fun t23 =>
    ex 1 t22 fun t24 =>
    cnd t24 (
      rt (.tuple #[t23, (.int .i64 0)])
      ) (
      nc t0 fun t28 =>
      fa 0 t28 fun t29 =>
      ld t29 fun t30 =>
      cl (f27 t30 t1) fun t32 =>
      ex 0 t32 fun t33 =>
      ex 1 t32 fun t34 =>
      rt (.tuple #[t33, t34])
      )
    )
theorem s65 (t0 t1 : Value) (w : World) (Q : Value → World → Prop) (h : f65 t0 t1 w Q) : Calls Tryz.prog 65 #[t0, t1] w (Rt Q) := by
  refine calls_of (l := [t0, t1]) Tryz.func65 rfl Tryz.ntmps65 (Nat.le_of_ble_eq_true rfl) ?_
  unfold f65 at h
  refine wp_seq ?_
  refine L_region ?_
  refine L_as ?_
  refine L_as ?_
  refine L_nil ?_
  refine E_n ?_
  refine wp_seq ?_
  refine wp_seq ?_
  refine L_region ?_
  refine L_mv ?_
  refine L_mv ?_
  refine L_u (N_cl Tryz.func74 rfl nn74 (fun w Q h => s74 _ _ w Q h) h) ?_
  intro v w h
  refine L_as ?_
  refine L_nil ?_
  refine E_n ?_
  refine wp_seq ?_
  refine L_region ?_
  refine L_mv ?_
  refine L_u (P_nei h) ?_
  intro v w h
  refine L_nil ?_
  refine E_n ?_
  refine C_cnd h (fun h => ?_) (fun h => ?_)
  · refine wp_seq ?_
    refine L_region ?_
    refine L_mv ?_
    refine L_as ?_
    refine L_as ?_
    refine L_nil ?_
    refine E_n ?_
    refine C_ret ?_
    show bodyPost Tryz.prog Tryz.f65 (Rt Q) .ret _ _
    exact post_tmps (ts := [4, 5]) (.inr rfl) rfl h
  · refine C_skip ?_
    refine E_n ?_
    refine wp_seq ?_
    refine wp_seq ?_
    refine L_region ?_
    refine L_mv ?_
    refine L_u (P_nc h) ?_
    intro v w h
    refine L_u (P_fa fo113_1 h) ?_
    intro v w h
    refine L_u (P_fa fo110_2 h) ?_
    intro v w h
    refine L_u (P_ld sc107 h) ?_
    intro v w h
    refine L_mv ?_
    refine L_u (P_smr rfl h) ?_
    intro v w h
    refine L_mv ?_
    refine L_u (P_ex h) ?_
    intro v w h
    refine L_u (P_ex h) ?_
    intro v w h
    refine L_as ?_
    refine L_as ?_
    refine L_nil ?_
    refine E_n ?_
    refine wp_seq ?_
    refine L_region ?_
    refine L_mv ?_
    refine L_nil ?_
    refine E_n ?_
    refine C_cnd h (fun h => ?_) (fun h => ?_)
    · refine wp_seq ?_
      refine L_region ?_
      refine L_mv ?_
      refine L_as ?_
      refine L_as ?_
      refine L_nil ?_
      refine E_n ?_
      refine C_ret ?_
      show bodyPost Tryz.prog Tryz.f65 (Rt Q) .ret _ _
      exact post_tmps (ts := [4, 5]) (.inr rfl) rfl h
    · refine C_skip ?_
      refine E_n ?_
      refine wp_seq ?_
      refine L_region ?_
      refine L_mv ?_
      refine L_u (P_nc h) ?_
      intro v w h
      refine L_u (P_fa fo113_0 h) ?_
      intro v w h
      refine L_u (P_ld sc29 h) ?_
      intro v w h
      refine L_mv ?_
      refine L_u (N_cl Tryz.func27 rfl nn27 (fun w Q h => s27 _ _ w Q h) h) ?_
      intro v w h
      refine L_u (P_ex h) ?_
      intro v w h
      refine L_u (P_ex h) ?_
      intro v w h
      refine L_as ?_
      refine L_as ?_
      refine L_nil ?_
      refine E_n ?_
      refine C_ret ?_
      show bodyPost Tryz.prog Tryz.f65 (Rt Q) .ret _ _
      exact post_tmps (ts := [4, 5]) (.inr rfl) rfl h

/- (*factotum/space.Work).Back -/
def f66 (t0 t1 : Value) : M :=
  cl (f70 t0) fun t7 =>
  nei .i64 t7 (.int .i64 0) fun t9 =>
  cnd t9 (
    rt t7
    ) (
    lt .i64 t1 (.int .i64 0) fun t12 =>
    gd t12 false (idv t1) fun t14 =>
    gd t12 false (idv t0) fun t15 =>
    gd t12 false (nc t15) fun t16 =>
    gd t12 false (fa 23 t16) fun t17 =>
    gd t12 false (ld t17) fun t18 =>
    gd t12 false (lnl t18) fun t19 =>
    gd t12 false (ge .i64 t14 t19) fun t20 =>
    pk t12 (.bool true) t20 fun t21 =>
    cnd t21 (
      rt (.int .i64 7)
      ) (
      dr <|
      idv t0 fun t22 =>
      idv t0 fun t23 =>
      idv t0 fun t24 =>
      nc t24 fun t25 =>
      fa 23 t25 fun t26 =>
      ld t26 fun t27 =>
      idv t1 fun t28 =>
      ia 22 t27 t28 fun t29 =>
      ldn 22 t29 fun t30 =>
      idv t0 fun t32 =>
      nc t32 fun t33 =>
      fa 23 t33 fun t34 =>
      ld t34 fun t35 =>
      idv t1 fun t36 =>
      ad .i64 t36 (.int .i64 1) fun t37 =>
      sll 22 t35 none (some t37) fun t38 =>
      cl (f105 t30) fun t31 =>
      kp (Kld t34 t35) <|
      nc t22 fun t39 =>
      fa 1 t39 fun t40 =>
      stn 22 t40 t31 <|
      nc t23 fun t41 =>
      fa 23 t41 fun t42 =>
      st t42 t38 <|
      rt (.int .i64 0)
      )
    )
theorem s66 (t0 t1 : Value) (w : World) (Q : Value → World → Prop) (h : f66 t0 t1 w Q) : Calls Tryz.prog 66 #[t0, t1] w (Rt Q) := by
  refine calls_of (l := [t0, t1]) Tryz.func66 rfl Tryz.ntmps66 (Nat.le_of_ble_eq_true rfl) ?_
  unfold f66 at h
  refine wp_seq ?_
  refine L_region ?_
  refine L_as ?_
  refine L_nil ?_
  refine E_n ?_
  refine wp_seq ?_
  refine wp_seq ?_
  refine L_region ?_
  refine L_mv ?_
  refine L_u (N_cl Tryz.func70 rfl nn70 (fun w Q h => s70 _ w Q h) h) ?_
  intro v w h
  refine L_as ?_
  refine L_nil ?_
  refine E_n ?_
  refine wp_seq ?_
  refine L_region ?_
  refine L_mv ?_
  refine L_u (P_nei h) ?_
  intro v w h
  refine L_nil ?_
  refine E_n ?_
  refine C_cnd h (fun h => ?_) (fun h => ?_)
  · refine wp_seq ?_
    refine L_region ?_
    refine L_mv ?_
    refine L_as ?_
    refine L_nil ?_
    refine E_n ?_
    refine C_ret ?_
    show bodyPost Tryz.prog Tryz.f66 (Rt Q) .ret _ _
    exact post_tmps (ts := [4]) (.inr rfl) rfl h
  · refine C_skip ?_
    refine E_n ?_
    refine wp_seq ?_
    refine wp_seq ?_
    refine L_region ?_
    refine L_mv ?_
    refine L_u (P_lt h) ?_
    intro v w h
    refine L_mv ?_
    refine L_g (t := 13) h rfl rfl (fun c h => P_mv h c) ?_
    intro v w h
    refine L_g (t := 13) h rfl rfl (fun c h => P_mv h c) ?_
    intro v w h
    refine L_g (t := 13) h rfl rfl (fun c h => P_nc h c) ?_
    intro v w h
    refine L_g (t := 13) h rfl rfl (fun c h => P_fa fo113_2 h c) ?_
    intro v w h
    refine L_g (t := 13) h rfl rfl (fun c h => P_ld sc111 h c) ?_
    intro v w h
    refine L_g (t := 13) h rfl rfl (fun c h => P_lnl is111 h c) ?_
    intro v w h
    refine L_g (t := 13) h rfl rfl (fun c h => P_ge h c) ?_
    intro v w h
    refine L_u (P_pk h) ?_
    intro v w h
    refine L_nil ?_
    refine E_n ?_
    refine C_cnd h (fun h => ?_) (fun h => ?_)
    · refine wp_seq ?_
      refine L_region ?_
      refine L_as ?_
      refine L_nil ?_
      refine E_n ?_
      refine C_ret ?_
      show bodyPost Tryz.prog Tryz.f66 (Rt Q) .ret _ _
      exact post_tmps (ts := [4]) (.inr rfl) rfl h
    · refine C_skip ?_
      refine E_n ?_
      refine wp_seq ?_
      refine D_region (by decide +kernel) 23 rfl ?_
      replace h := dr_e h
      refine G_p 0 rfl (by decide +kernel) (Y_mv h) ?_
      intro v h
      refine G_p 1 rfl (by decide +kernel) (Y_mv h) ?_
      intro v h
      refine G_p 2 rfl (by decide +kernel) (Y_mv h) ?_
      intro v h
      refine G_p 3 rfl (by decide +kernel) (Y_nc h) ?_
      intro v h
      refine G_p 4 rfl (by decide +kernel) (Y_fa fo113_2 h) ?_
      intro v h
      refine G_r _ 5 rfl (by decide +kernel) (R_ld sc111 h) ?_
      intro v h
      refine G_p 6 rfl (by decide +kernel) (Y_mv h) ?_
      intro v h
      refine G_p 7 rfl (by decide +kernel) (Y_ia se111 h) ?_
      intro v h
      refine G_r _ 8 rfl (by decide +kernel) (R_ldn ag110 h) ?_
      intro v h
      refine G_p 10 rfl (by decide +kernel) (Y_mv h) ?_
      intro v h
      refine G_p 11 rfl (by decide +kernel) (Y_nc h) ?_
      intro v h
      refine G_p 12 rfl (by decide +kernel) (Y_fa fo113_2 h) ?_
      intro v h
      refine G_r _ 13 rfl (by decide +kernel) (R_ld sc111 h) ?_
      intro v h
      refine G_p 14 rfl (by decide +kernel) (Y_mv h) ?_
      intro v h
      refine G_p 15 rfl (by decide +kernel) (Y_ad h) ?_
      intro v h
      refine G_p 16 rfl (by decide +kernel) (Y_sll se111 h) ?_
      intro v h
      refine G_e 9 rfl (by decide +kernel) (N_cl Tryz.func105 rfl nn105 (fun w Q h => s105 _ w Q h) h ?_)
      intro v w h
      refine ⟨keepF_cons (kp_1 h) (keepF_dep [8] (by decide +kernel) rfl (keepF_dep [8, 7, 5] (by decide +kernel) rfl keepF_nil)), ?_⟩
      replace h := (kp_2 h)
      refine G_p 17 rfl (by decide +kernel) (Y_nc h) ?_
      intro v h
      refine G_p 18 rfl (by decide +kernel) (Y_fa fo113_1 h) ?_
      intro v h
      refine G_e 19 rfl (by decide +kernel) (P_stn ag110 h ?_)
      intro w h
      refine ⟨keepF_dep [13] (by decide +kernel) rfl (keepF_dep [8] (by decide +kernel) rfl (keepF_dep [5] (by decide +kernel) rfl keepF_nil)), ?_⟩
      refine G_p 20 rfl (by decide +kernel) (Y_nc h) ?_
      intro v h
      refine G_p 21 rfl (by decide +kernel) (Y_fa fo113_2 h) ?_
      intro v h
      refine G_e 22 rfl (by decide +kernel) (P_st on111 h ?_)
      intro w h
      refine ⟨keepF_dep [13] (by decide +kernel) rfl (keepF_dep [8] (by decide +kernel) rfl (keepF_dep [5] (by decide +kernel) rfl keepF_nil)), ?_⟩
      refine G_done (by decide +kernel) ?_
      refine E_n ?_
      refine wp_seq ?_
      refine L_region ?_
      refine L_as ?_
      refine L_nil ?_
      refine E_n ?_
      refine C_ret ?_
      show bodyPost Tryz.prog Tryz.f66 (Rt Q) .ret _ _
      exact post_tmps (ts := [4]) (.inr rfl) rfl h

/- (*factotum/space.Work).Write -/
def f67 (t0 t1 t2 : Value) : M :=
  cl (f74 t0 t1) fun t10 =>
  nei .i64 t10 (.int .i64 0) fun t12 =>
  cnd t12 (
    rt t10
    ) (
    lns t2 fun t15 =>
    nei .i64 t15 (.int .i64 256) fun t16 =>
    cnd t16 (
      rt (.int .i64 1)
      ) (
      nc t0 fun t18 =>
      fa 1 t18 fun t19 =>
      fa 21 t19 fun t20 =>
      ld t20 fun t21 =>
      smu Tryz.prog (Instr.mapUpdate 107 t21 t1 t2) <|
      rt (.int .i64 0)
      )
    )
theorem s67 (t0 t1 t2 : Value) (w : World) (Q : Value → World → Prop) (h : f67 t0 t1 t2 w Q) : Calls Tryz.prog 67 #[t0, t1, t2] w (Rt Q) := by
  refine calls_of (l := [t0, t1, t2]) Tryz.func67 rfl Tryz.ntmps67 (Nat.le_of_ble_eq_true rfl) ?_
  unfold f67 at h
  refine wp_seq ?_
  refine L_region ?_
  refine L_as ?_
  refine L_nil ?_
  refine E_n ?_
  refine wp_seq ?_
  refine wp_seq ?_
  refine L_region ?_
  refine L_mv ?_
  refine L_mv ?_
  refine L_u (N_cl Tryz.func74 rfl nn74 (fun w Q h => s74 _ _ w Q h) h) ?_
  intro v w h
  refine L_as ?_
  refine L_nil ?_
  refine E_n ?_
  refine wp_seq ?_
  refine L_region ?_
  refine L_mv ?_
  refine L_u (P_nei h) ?_
  intro v w h
  refine L_nil ?_
  refine E_n ?_
  refine C_cnd h (fun h => ?_) (fun h => ?_)
  · refine wp_seq ?_
    refine L_region ?_
    refine L_mv ?_
    refine L_as ?_
    refine L_nil ?_
    refine E_n ?_
    refine C_ret ?_
    show bodyPost Tryz.prog Tryz.f67 (Rt Q) .ret _ _
    exact post_tmps (ts := [6]) (.inr rfl) rfl h
  · refine C_skip ?_
    refine E_n ?_
    refine wp_seq ?_
    refine wp_seq ?_
    refine L_region ?_
    refine L_mv ?_
    refine L_u (P_lns st9 h) ?_
    intro v w h
    refine L_u (P_nei h) ?_
    intro v w h
    refine L_nil ?_
    refine E_n ?_
    refine C_cnd h (fun h => ?_) (fun h => ?_)
    · refine wp_seq ?_
      refine L_region ?_
      refine L_as ?_
      refine L_nil ?_
      refine E_n ?_
      refine C_ret ?_
      show bodyPost Tryz.prog Tryz.f67 (Rt Q) .ret _ _
      exact post_tmps (ts := [6]) (.inr rfl) rfl h
    · refine C_skip ?_
      refine E_n ?_
      refine wp_seq ?_
      refine L_region ?_
      refine L_mv ?_
      refine L_u (P_nc h) ?_
      intro v w h
      refine L_u (P_fa fo113_1 h) ?_
      intro v w h
      refine L_u (P_fa fo110_2 h) ?_
      intro v w h
      refine L_u (P_ld sc107 h) ?_
      intro v w h
      refine L_mv ?_
      refine L_mv ?_
      refine L_u (P_smu rfl h) ?_
      intro w h
      refine L_nil ?_
      refine E_n ?_
      refine wp_seq ?_
      refine L_region ?_
      refine L_as ?_
      refine L_nil ?_
      refine E_n ?_
      refine C_ret ?_
      show bodyPost Tryz.prog Tryz.f67 (Rt Q) .ret _ _
      exact post_tmps (ts := [6]) (.inr rfl) rfl h

/- (*factotum/space.Work).SetHead -/
def f68 (t0 t1 : Value) : M :=
  cl (f70 t0) fun t7 =>
  nei .i64 t7 (.int .i64 0) fun t9 =>
  cnd t9 (
    rt t7
    ) (
    lns t1 fun t12 =>
    gt .i64 t12 (.int .i64 236) fun t13 =>
    cnd t13 (
      rt (.int .i64 3)
      ) (
      lns t1 fun t17 =>
      su .i64 (.int .i64 236) t17 fun t18 =>
      cl (f73 t18) fun t19 =>
      cat t1 t19 fun t20 =>
      nc t0 fun t21 =>
      fa 1 t21 fun t22 =>
      fa 20 t22 fun t23 =>
      st t23 t20 <|
      rt (.int .i64 0)
      )
    )
theorem s68 (t0 t1 : Value) (w : World) (Q : Value → World → Prop) (h : f68 t0 t1 w Q) : Calls Tryz.prog 68 #[t0, t1] w (Rt Q) := by
  refine calls_of (l := [t0, t1]) Tryz.func68 rfl Tryz.ntmps68 (Nat.le_of_ble_eq_true rfl) ?_
  unfold f68 at h
  refine wp_seq ?_
  refine L_region ?_
  refine L_as ?_
  refine L_nil ?_
  refine E_n ?_
  refine wp_seq ?_
  refine wp_seq ?_
  refine L_region ?_
  refine L_mv ?_
  refine L_u (N_cl Tryz.func70 rfl nn70 (fun w Q h => s70 _ w Q h) h) ?_
  intro v w h
  refine L_as ?_
  refine L_nil ?_
  refine E_n ?_
  refine wp_seq ?_
  refine L_region ?_
  refine L_mv ?_
  refine L_u (P_nei h) ?_
  intro v w h
  refine L_nil ?_
  refine E_n ?_
  refine C_cnd h (fun h => ?_) (fun h => ?_)
  · refine wp_seq ?_
    refine L_region ?_
    refine L_mv ?_
    refine L_as ?_
    refine L_nil ?_
    refine E_n ?_
    refine C_ret ?_
    show bodyPost Tryz.prog Tryz.f68 (Rt Q) .ret _ _
    exact post_tmps (ts := [4]) (.inr rfl) rfl h
  · refine C_skip ?_
    refine E_n ?_
    refine wp_seq ?_
    refine wp_seq ?_
    refine L_region ?_
    refine L_mv ?_
    refine L_u (P_lns st9 h) ?_
    intro v w h
    refine L_u (P_gt h) ?_
    intro v w h
    refine L_nil ?_
    refine E_n ?_
    refine C_cnd h (fun h => ?_) (fun h => ?_)
    · refine wp_seq ?_
      refine L_region ?_
      refine L_as ?_
      refine L_nil ?_
      refine E_n ?_
      refine C_ret ?_
      show bodyPost Tryz.prog Tryz.f68 (Rt Q) .ret _ _
      exact post_tmps (ts := [4]) (.inr rfl) rfl h
    · refine C_skip ?_
      refine E_n ?_
      refine wp_seq ?_
      refine L_region ?_
      refine L_mv ?_
      refine L_mv ?_
      refine L_mv ?_
      refine L_u (P_lns st9 h) ?_
      intro v w h
      refine L_u (P_su h) ?_
      intro v w h
      refine L_u (N_cl Tryz.func73 rfl nn73 (fun w Q h => s73 _ w Q h) h) ?_
      intro v w h
      refine L_u (P_cat h) ?_
      intro v w h
      refine L_u (P_nc h) ?_
      intro v w h
      refine L_u (P_fa fo113_1 h) ?_
      intro v w h
      refine L_u (P_fa fo110_1 h) ?_
      intro v w h
      refine L_u (P_st on9 h) ?_
      intro w h
      refine L_nil ?_
      refine E_n ?_
      refine wp_seq ?_
      refine L_region ?_
      refine L_as ?_
      refine L_nil ?_
      refine E_n ?_
      refine C_ret ?_
      show bodyPost Tryz.prog Tryz.f68 (Rt Q) .ret _ _
      exact post_tmps (ts := [4]) (.inr rfl) rfl h

/- (*factotum/space.Work).first -/
def f125 (t0 : Value) : M :=
  dr <|
  idv t0 fun t3 =>
  nc t3 fun t4 =>
  fa 1 t4 fun t5 =>
  fa 0 t5 fun t6 =>
  sla 20 1 t6 none none fun t7 =>
  smr Tryz.prog (convert 42 9 t7) fun t8 =>
  idv t0 fun t9 =>
  nc t9 fun t10 =>
  fa 1 t10 fun t11 =>
  fa 20 t11 fun t12 =>
  ld t12 fun t13 =>
  cat t8 t13 fun t14 =>
  idv t14 fun t2 =>
  rt t2
theorem s125 (t0 : Value) (w : World) (Q : Value → World → Prop) (h : f125 t0 w Q) : Calls Tryz.prog 125 #[t0] w (Rt Q) := by
  refine calls_of (l := [t0]) Tryz.func125 rfl Tryz.ntmps125 (Nat.le_of_ble_eq_true rfl) ?_
  unfold f125 at h
  refine wp_seq ?_
  refine L_region ?_
  refine L_as ?_
  refine L_nil ?_
  refine E_n ?_
  refine wp_seq ?_
  refine D_region (by decide +kernel) 13 rfl ?_
  replace h := dr_e h
  refine G_p 0 rfl (by decide +kernel) (Y_mv h) ?_
  intro v h
  refine G_p 1 rfl (by decide +kernel) (Y_nc h) ?_
  intro v h
  refine G_p 2 rfl (by decide +kernel) (Y_fa fo113_1 h) ?_
  intro v h
  refine G_p 3 rfl (by decide +kernel) (Y_fa fo110_0 h) ?_
  intro v h
  refine G_p 4 rfl (by decide +kernel) (Y_sla ae108 h) ?_
  intro v h
  refine G_r _ 5 rfl (by decide +kernel) (R_sm rfl h) ?_
  intro v h
  refine G_p 6 rfl (by decide +kernel) (Y_mv h) ?_
  intro v h
  refine G_p 7 rfl (by decide +kernel) (Y_nc h) ?_
  intro v h
  refine G_p 8 rfl (by decide +kernel) (Y_fa fo113_1 h) ?_
  intro v h
  refine G_p 9 rfl (by decide +kernel) (Y_fa fo110_1 h) ?_
  intro v h
  refine G_r _ 10 rfl (by decide +kernel) (R_ld sc9 h) ?_
  intro v h
  refine G_p 11 rfl (by decide +kernel) (Y_cat h) ?_
  intro v h
  refine G_p 12 rfl (by decide +kernel) (Y_as h) ?_
  intro v h
  refine G_done (by decide +kernel) ?_
  refine E_n ?_
  refine C_ret ?_
  show bodyPost Tryz.prog Tryz.f125 (Rt Q) .ret _ _
  exact post_tmps (ts := [2]) (.inr rfl) rfl h

/- (*factotum/space.Work).changes -/
def f104_j4 (self3 : Value → Value → Value → Value → Value → M) (t0_3 t3_2 t34_2 t35_2 t36_1 : Value) : M :=
  ad .i64 t36_1 (.int .i64 1) fun t77 =>
  self3 t0_3 t3_2 t34_2 t35_2 t77
def f104_b3 (j2 : Value → M) (self3 : Value → Value → Value → Value → Value → M) (t0_2 t3_1 t34_1 t35_1 t36 : Value) : M :=
  lt .i64 t36 t35_1 fun t37 =>
  cnd t37 (
    ia 1 t34_1 t36 fun t38 =>
    ld t38 fun t39 =>
    nc t0_2 fun t42 =>
    fa 0 t42 fun t43 =>
    ld t43 fun t44 =>
    cl (f27 t44 t39) fun t46 =>
    ex 0 t46 fun t47 =>
    ex 1 t46 fun t48 =>
    nc t0_2 fun t50 =>
    fa 1 t50 fun t51 =>
    cl (f71 t51 t39) fun t53 =>
    gd t53 true (idv t47) fun t55 =>
    gd t53 true (idv t0_2) fun t56 =>
    gd t53 true (nc t56) fun t57 =>
    gd t53 true (fa 1 t57) fun t58 =>
    gd t53 true (fa 21 t58) fun t59 =>
    gd t53 true (ld t59) fun t60 =>
    gd t53 true (idv t39) fun t61 =>
    gd t53 true (smr Tryz.prog (Instr.lookup 107 t60 t61 false)) fun t62 =>
    gd t53 true (nes t55 t62) fun t63 =>
    pk t53 t63 (.bool false) fun t64 =>
    jn (fun (j4 : Value → Value → Value → Value → Value → M) =>
      cnd t64 (
        nc t0_2 fun t68 =>
        fa 1 t68 fun t69 =>
        fa 21 t69 fun t70 =>
        ld t70 fun t71 =>
        smr Tryz.prog (Instr.lookup 107 t71 t39 false) fun t73 =>
        smr Tryz.prog (Instr.build 48 #[(0, t39), (1, t73)]) fun t74 =>
        sm Tryz.prog (Instr.buildSlice 49 1 #[(0, t74)]) fun t75 =>
        sm Tryz.prog (Builtin.append_ #[49, 49] 49 #[t3_1, t75]) fun t76 =>
        j4 t0_2 t76 t34_1 t35_1 t36
        ) (
        j4 t0_2 t3_1 t34_1 t35_1 t36
        )
      ) (f104_j4 self3)
    ) (
    j2 t3_1
    )
def f104_j2 (t3_3 : Value) : M :=
  rt t3_3
def f104_j1 (t0_1 t3 : Value) : M :=
  nc t0_1 fun t29 =>
  fa 1 t29 fun t30 =>
  fa 21 t30 fun t31 =>
  ld t31 fun t32 =>
  cc Tryz.prog 126 #[t32] fun t33 =>
  cc Tryz.prog 92 #[t33] fun t34 =>
  lnl t34 fun t35 =>
  jn (fun (j2 : Value → M) =>
    lo (fun _ _ _ _ _ => bot) (f104_b3 j2) (fun l => l t0_1 t3 t34 t35 (.int .i64 0))
    ) (f104_j2)
def f104 (t0 : Value) : M :=
  nc t0 fun t12 =>
  fa 0 t12 fun t13 =>
  ld t13 fun t14 =>
  cl (f27 t14 (.int .i64 0)) fun t15 =>
  ex 0 t15 fun t16 =>
  ex 1 t15 fun t17 =>
  cl (f125 t0) fun t20 =>
  nes t16 t20 fun t21 =>
  jn (fun (j1 : Value → Value → M) =>
    cnd t21 (
      cl (f125 t0) fun t24 =>
      smr Tryz.prog (Instr.build 48 #[(0, (.int .i64 0)), (1, t24)]) fun t25 =>
      sm Tryz.prog (Instr.buildSlice 49 1 #[(0, t25)]) fun t26 =>
      sm Tryz.prog (Builtin.append_ #[49, 49] 49 #[(.slice none 0 0), t26]) fun t27 =>
      j1 t0 t27
      ) (
      j1 t0 (.slice none 0 0)
      )
    ) (f104_j1)
theorem s104 (t0 : Value) (w : World) (Q : Value → World → Prop) (h : f104 t0 w Q) : Calls Tryz.prog 104 #[t0] w (Rt Q) := by
  refine calls_of (l := [t0]) Tryz.func104 rfl Tryz.ntmps104 (Nat.le_of_ble_eq_true rfl) ?_
  unfold f104 at h
  refine wp_seq ?_
  refine L_region ?_
  refine L_as ?_
  refine L_nil ?_
  refine E_n ?_
  refine wp_seq ?_
  refine L_region ?_
  refine L_as ?_
  refine L_nil ?_
  refine E_n ?_
  refine wp_seq ?_
  refine wp_seq ?_
  refine L_region ?_
  refine L_mv ?_
  refine L_u (P_nc h) ?_
  intro v w h
  refine L_u (P_fa fo113_0 h) ?_
  intro v w h
  refine L_u (P_ld sc29 h) ?_
  intro v w h
  refine L_u (N_cl Tryz.func27 rfl nn27 (fun w Q h => s27 _ _ w Q h) h) ?_
  intro v w h
  refine L_mv ?_
  refine L_u (P_ex h) ?_
  intro v w h
  refine L_u (P_ex h) ?_
  intro v w h
  refine L_as ?_
  refine L_as ?_
  refine L_nil ?_
  refine E_n ?_
  refine wp_seq ?_
  refine L_region ?_
  refine L_mv ?_
  refine L_mv ?_
  refine L_u (N_cl Tryz.func125 rfl nn125 (fun w Q h => s125 _ w Q h) h) ?_
  intro v w h
  refine L_u (P_nes h) ?_
  intro v w h
  refine L_nil ?_
  refine E_n ?_
  refine C_join (fun (k : Value → Value → M) (ρ : Nat → Value) => k (ρ 0) (ρ 3)) h (fun j1 J1 h => ?_) (fun ρ w h => ?_)
  · refine C_cnd h (fun h => ?_) (fun h => ?_)
    · refine L_region ?_
      refine L_mv ?_
      refine L_mv ?_
      refine L_u (N_cl Tryz.func125 rfl nn125 (fun w Q h => s125 _ w Q h) h) ?_
      intro v w h
      refine L_u (N_bld h) ?_
      intro v w h
      refine L_u (N_bsl h) ?_
      intro v w h
      refine L_u (N_bi rfl h) ?_
      intro v w h
      refine L_as ?_
      refine L_nil ?_
      exact J1 _ _ h
    · refine C_skip ?_
      exact J1 _ _ h
  · unfold f104_j1 at h
    refine E_n ?_
    refine wp_seq ?_
    refine wp_seq ?_
    refine L_region ?_
    refine L_mv ?_
    refine L_u (P_nc h) ?_
    intro v w h
    refine L_u (P_fa fo113_1 h) ?_
    intro v w h
    refine L_u (P_fa fo110_2 h) ?_
    intro v w h
    refine L_u (P_ld sc107 h) ?_
    intro v w h
    refine L_u (N_cc Tryz.func126 rfl nn126 h) ?_
    intro v w h
    refine L_u (N_cc Tryz.func92 rfl nn92 h) ?_
    intro v w h
    refine L_u (P_lnl is22 h) ?_
    intro v w h
    refine L_mv ?_
    refine L_nil ?_
    refine E_n ?_
    refine C_join (fun (k : Value → M) (ρ : Nat → Value) => k (ρ 3)) h (fun j2 J2 h => ?_) (fun ρ w h => ?_)
    · refine C_blk ?_
      refine C_lo (fun (l : Value → Value → Value → Value → Value → M) (ρ : Nat → Value) => l (ρ 0) (ρ 3) (ρ 34) (ρ 35) (ρ 36)) h (fun ρ w h => h) (fun nx self3 L3 ρ w h => ?_)
      unfold f104_b3 at h
      refine wp_seq ?_
      refine L_region ?_
      refine L_u (P_lt h) ?_
      intro v w h
      refine L_nil ?_
      refine E_n ?_
      refine wp_seq ?_
      refine C_cnd h (fun h => ?_) (fun h => ?_)
      · refine C_skip ?_
        refine E_n ?_
        refine wp_seq ?_
        refine C_blk ?_
        refine wp_seq ?_
        refine L_region ?_
        refine L_u (P_ia se22 h) ?_
        intro v w h
        refine L_u (P_ld sc3 h) ?_
        intro v w h
        refine L_as ?_
        refine L_nil ?_
        refine E_n ?_
        refine wp_seq ?_
        refine L_region ?_
        refine L_mv ?_
        refine L_u (P_nc h) ?_
        intro v w h
        refine L_u (P_fa fo113_0 h) ?_
        intro v w h
        refine L_u (P_ld sc29 h) ?_
        intro v w h
        refine L_mv ?_
        refine L_u (N_cl Tryz.func27 rfl nn27 (fun w Q h => s27 _ _ w Q h) h) ?_
        intro v w h
        refine L_mv ?_
        refine L_u (P_ex h) ?_
        intro v w h
        refine L_u (P_ex h) ?_
        intro v w h
        refine L_as ?_
        refine L_as ?_
        refine L_nil ?_
        refine E_n ?_
        refine wp_seq ?_
        refine L_region ?_
        refine L_mv ?_
        refine L_u (P_nc h) ?_
        intro v w h
        refine L_u (P_fa fo113_1 h) ?_
        intro v w h
        refine L_mv ?_
        refine L_u (N_cl Tryz.func71 rfl nn71 (fun w Q h => s71 _ _ w Q h) h) ?_
        intro v w h
        refine L_mv ?_
        refine L_g (t := 54) h rfl rfl (fun c h => P_mv h c) ?_
        intro v w h
        refine L_g (t := 54) h rfl rfl (fun c h => P_mv h c) ?_
        intro v w h
        refine L_g (t := 54) h rfl rfl (fun c h => P_nc h c) ?_
        intro v w h
        refine L_g (t := 54) h rfl rfl (fun c h => P_fa fo113_1 h c) ?_
        intro v w h
        refine L_g (t := 54) h rfl rfl (fun c h => P_fa fo110_2 h c) ?_
        intro v w h
        refine L_g (t := 54) h rfl rfl (fun c h => P_ld sc107 h c) ?_
        intro v w h
        refine L_g (t := 54) h rfl rfl (fun c h => P_mv h c) ?_
        intro v w h
        refine L_g (t := 54) h rfl rfl (fun c h => P_smr rfl h c) ?_
        intro v w h
        refine L_g (t := 54) h rfl rfl (fun c h => P_nes h c) ?_
        intro v w h
        refine L_u (P_pk h) ?_
        intro v w h
        refine L_nil ?_
        refine E_n ?_
        refine C_join (fun (k : Value → Value → Value → Value → Value → M) (ρ : Nat → Value) => k (ρ 0) (ρ 3) (ρ 34) (ρ 35) (ρ 36)) h (fun j4 J4 h => ?_) (fun ρ w h => ?_)
        · refine C_cnd h (fun h => ?_) (fun h => ?_)
          · refine L_region ?_
            refine L_mv ?_
            refine L_mv ?_
            refine L_mv ?_
            refine L_u (P_nc h) ?_
            intro v w h
            refine L_u (P_fa fo113_1 h) ?_
            intro v w h
            refine L_u (P_fa fo110_2 h) ?_
            intro v w h
            refine L_u (P_ld sc107 h) ?_
            intro v w h
            refine L_mv ?_
            refine L_u (P_smr rfl h) ?_
            intro v w h
            refine L_u (N_bld h) ?_
            intro v w h
            refine L_u (N_bsl h) ?_
            intro v w h
            refine L_u (N_bi rfl h) ?_
            intro v w h
            refine L_as ?_
            refine L_nil ?_
            exact J4 _ _ h
          · refine C_skip ?_
            exact J4 _ _ h
        · unfold f104_j4 at h
          refine B_n ?_
          refine E_n ?_
          refine L_region ?_
          refine L_u (P_ad h) ?_
          intro v w h
          refine L_mv ?_
          refine L_nil ?_
          refine E_n ?_
          exact L3 _ _ h
      · refine C_exit ?_
        refine E_x ?_
        refine E_x ?_
        refine B_x ?_
        exact J2 _ _ h
    · unfold f104_j2 at h
      refine E_n ?_
      refine wp_seq ?_
      refine L_region ?_
      refine L_mv ?_
      refine L_as ?_
      refine L_nil ?_
      refine E_n ?_
      refine C_ret ?_
      show bodyPost Tryz.prog Tryz.f104 (Rt Q) .ret _ _
      exact post_tmps (ts := [2]) (.inr rfl) rfl h

/- (*factotum/space.Work).Commit -/
def f69 (t0 : Value) : M :=
  cl (f70 t0) fun t6 =>
  nei .i64 t6 (.int .i64 0) fun t8 =>
  cnd t8 (
    rt t6
    ) (
    dr <|
    idv t0 fun t10 =>
    nc t10 fun t11 =>
    fa 0 t11 fun t12 =>
    ld t12 fun t13 =>
    idv t0 fun t14 =>
    cl (f104 t14) fun t15 =>
    kp (Kld t12 t13) <|
    cl (f25 t13 t15) fun t16 =>
    idv t16 fun t4 =>
    nc t0 fun t19 =>
    fa 24 t19 fun t20 =>
    ld t20 fun t21 =>
    gd t21 false (idv t4) fun t23 =>
    gd t21 false (eqi .i64 t23 (.int .i64 0)) fun t24 =>
    pk t21 (.bool true) t24 fun t25 =>
    nc t0 fun t26 =>
    fa 24 t26 fun t27 =>
    st t27 t25 <|
    rt t4
    )
theorem s69 (t0 : Value) (w : World) (Q : Value → World → Prop) (h : f69 t0 w Q) : Calls Tryz.prog 69 #[t0] w (Rt Q) := by
  refine calls_of (l := [t0]) Tryz.func69 rfl Tryz.ntmps69 (Nat.le_of_ble_eq_true rfl) ?_
  unfold f69 at h
  refine wp_seq ?_
  refine L_region ?_
  refine L_as ?_
  refine L_nil ?_
  refine E_n ?_
  refine wp_seq ?_
  refine wp_seq ?_
  refine L_region ?_
  refine L_mv ?_
  refine L_u (N_cl Tryz.func70 rfl nn70 (fun w Q h => s70 _ w Q h) h) ?_
  intro v w h
  refine L_as ?_
  refine L_nil ?_
  refine E_n ?_
  refine wp_seq ?_
  refine L_region ?_
  refine L_mv ?_
  refine L_u (P_nei h) ?_
  intro v w h
  refine L_nil ?_
  refine E_n ?_
  refine C_cnd h (fun h => ?_) (fun h => ?_)
  · refine wp_seq ?_
    refine L_region ?_
    refine L_mv ?_
    refine L_as ?_
    refine L_nil ?_
    refine E_n ?_
    refine C_ret ?_
    show bodyPost Tryz.prog Tryz.f69 (Rt Q) .ret _ _
    exact post_tmps (ts := [2]) (.inr rfl) rfl h
  · refine C_skip ?_
    refine E_n ?_
    refine wp_seq ?_
    refine D_region (by decide +kernel) 8 rfl ?_
    replace h := dr_e h
    refine G_p 0 rfl (by decide +kernel) (Y_mv h) ?_
    intro v h
    refine G_p 1 rfl (by decide +kernel) (Y_nc h) ?_
    intro v h
    refine G_p 2 rfl (by decide +kernel) (Y_fa fo113_0 h) ?_
    intro v h
    refine G_r _ 3 rfl (by decide +kernel) (R_ld sc29 h) ?_
    intro v h
    refine G_p 4 rfl (by decide +kernel) (Y_mv h) ?_
    intro v h
    refine G_e 5 rfl (by decide +kernel) (N_cl Tryz.func104 rfl nn104 (fun w Q h => s104 _ w Q h) h ?_)
    intro v w h
    refine ⟨keepF_cons (kp_1 h) keepF_nil, ?_⟩
    replace h := (kp_2 h)
    refine G_e 6 rfl (by decide +kernel) (N_cl Tryz.func25 rfl nn25 (fun w Q h => s25 _ _ w Q h) h ?_)
    intro v w h
    refine ⟨keepF_dep [3] (by decide +kernel) rfl keepF_nil, ?_⟩
    refine G_p 7 rfl (by decide +kernel) (Y_as h) ?_
    intro v h
    refine G_done (by decide +kernel) ?_
    refine E_n ?_
    refine wp_seq ?_
    refine L_region ?_
    refine L_mv ?_
    refine L_mv ?_
    refine L_u (P_nc h) ?_
    intro v w h
    refine L_u (P_fa fo113_3 h) ?_
    intro v w h
    refine L_u (P_ld sc4 h) ?_
    intro v w h
    refine L_mv ?_
    refine L_g (t := 22) h rfl rfl (fun c h => P_mv h c) ?_
    intro v w h
    refine L_g (t := 22) h rfl rfl (fun c h => P_eqi h c) ?_
    intro v w h
    refine L_u (P_pk h) ?_
    intro v w h
    refine L_u (P_nc h) ?_
    intro v w h
    refine L_u (P_fa fo113_3 h) ?_
    intro v w h
    refine L_u (P_st on4 h) ?_
    intro w h
    refine L_nil ?_
    refine E_n ?_
    refine wp_seq ?_
    refine L_region ?_
    refine L_mv ?_
    refine L_as ?_
    refine L_nil ?_
    refine E_n ?_
    refine C_ret ?_
    show bodyPost Tryz.prog Tryz.f69 (Rt Q) .ret _ _
    exact post_tmps (ts := [2]) (.inr rfl) rfl h

/- (*factotum/factotumref08.Work).IsUsed -/
def f103 (t0 t1 : Value) : M :=
  eqi .i64 t1 (.int .i64 0) fun t6 =>
  gd t6 false (idv t0) fun t8 =>
  gd t6 false (nc t8) fun t9 =>
  gd t6 false (fa 1 t9) fun t10 =>
  gd t6 false (ld t10) fun t11 =>
  gd t6 false (ia 1 t11 (.int .i64 0)) fun t12 =>
  gd t6 false (ld t12) fun t13 =>
  gd t6 false (idv t1) fun t14 =>
  gd t6 false (qu .i64 t14 (.int .i64 8)) fun t15 =>
  gd t6 false (ixs t13 t15) fun t16 =>
  gd t6 false (idv t1) fun t17 =>
  gd t6 false (re .i64 t17 (.int .i64 8)) fun t18 =>
  gd t6 false (cv .u64 t18) fun t19 =>
  gd t6 false (shr .u8 .u64 t16 t19) fun t20 =>
  gd t6 false (re .u8 t20 (.int .u8 2)) fun t21 =>
  gd t6 false (eqi .u8 t21 (.int .u8 1)) fun t22 =>
  pk t6 (.bool true) t22 fun t23 =>
  rt t23
theorem s103 (t0 t1 : Value) (w : World) (Q : Value → World → Prop) (h : f103 t0 t1 w Q) : Calls Tryz.prog 103 #[t0, t1] w (Rt Q) := by
  refine calls_of (l := [t0, t1]) Tryz.func103 rfl Tryz.ntmps103 (Nat.le_of_ble_eq_true rfl) ?_
  unfold f103 at h
  refine wp_seq ?_
  refine L_region ?_
  refine L_as ?_
  refine L_nil ?_
  refine E_n ?_
  refine wp_seq ?_
  refine L_region ?_
  refine L_mv ?_
  refine L_u (P_eqi h) ?_
  intro v w h
  refine L_mv ?_
  refine L_g (t := 7) h rfl rfl (fun c h => P_mv h c) ?_
  intro v w h
  refine L_g (t := 7) h rfl rfl (fun c h => P_nc h c) ?_
  intro v w h
  refine L_g (t := 7) h rfl rfl (fun c h => P_fa fo151_1 h c) ?_
  intro v w h
  refine L_g (t := 7) h rfl rfl (fun c h => P_ld sc100 h c) ?_
  intro v w h
  refine L_g (t := 7) h rfl rfl (fun c h => P_ia se100 h c) ?_
  intro v w h
  refine L_g (t := 7) h rfl rfl (fun c h => P_ld sc9 h c) ?_
  intro v w h
  refine L_g (t := 7) h rfl rfl (fun c h => P_mv h c) ?_
  intro v w h
  refine L_g (t := 7) h rfl rfl (fun c h => P_qu h c) ?_
  intro v w h
  refine L_g (t := 7) h rfl rfl (fun c h => P_ixs st9 h c) ?_
  intro v w h
  refine L_g (t := 7) h rfl rfl (fun c h => P_mv h c) ?_
  intro v w h
  refine L_g (t := 7) h rfl rfl (fun c h => P_re h c) ?_
  intro v w h
  refine L_g (t := 7) h rfl rfl (fun c h => P_cv ai3 in37 h c) ?_
  intro v w h
  refine L_g (t := 7) h rfl rfl (fun c h => P_shr h c) ?_
  intro v w h
  refine L_g (t := 7) h rfl rfl (fun c h => P_re h c) ?_
  intro v w h
  refine L_g (t := 7) h rfl rfl (fun c h => P_eqi h c) ?_
  intro v w h
  refine L_u (P_pk h) ?_
  intro v w h
  refine L_as ?_
  refine L_nil ?_
  refine E_n ?_
  refine C_ret ?_
  show bodyPost Tryz.prog Tryz.f103 (Rt Q) .ret _ _
  exact post_tmps (ts := [4]) (.inr rfl) rfl h
end Go.Proofs.YtongpnolikkknaaGreatDoor

set_option maxRecDepth 20000
set_option maxHeartbeats 4000000
namespace Go.Proofs.YtongpnolikkknaaGreatDoor
open Sh
attribute [local irreducible] wpL anyG act jn lo gdB amb kp smr nc fa ld ldn st stn ad su mu qu re lt le gt ge eqi nei bws shl shr cat eqs nes lts gts eqb neb nt pk cv al bx ex fld fldn lnl lns ia iaa ixs sls sll sla mif mnm mxm mm asrt sm smu cl cc cf ci cnd gd gdu
/- (*factotum/factotumref08.Work).there -/
def f123 (t0 t1 : Value) : M :=
  gt .i64 t1 (.int .i64 0) fun t6 =>
  gd t6 true (idv t1) fun t8 =>
  gd t6 true (idv t0) fun t9 =>
  gd t6 true (nc t9) fun t10 =>
  gd t6 true (fa 1 t10) fun t11 =>
  gd t6 true (ld t11) fun t12 =>
  gd t6 true (lnl t12) fun t13 =>
  gd t6 true (lt .i64 t8 t13) fun t14 =>
  pk t6 t14 (.bool false) fun t15 =>
  gd t15 true (idv t0) fun t17 =>
  gd t15 true (idv t1) fun t18 =>
  gd t15 true (cl (f103 t17 t18)) fun t19 =>
  pk t15 t19 (.bool false) fun t20 =>
  rt t20
theorem s123 (t0 t1 : Value) (w : World) (Q : Value → World → Prop) (h : f123 t0 t1 w Q) : Calls Tryz.prog 123 #[t0, t1] w (Rt Q) := by
  refine calls_of (l := [t0, t1]) Tryz.func123 rfl Tryz.ntmps123 (Nat.le_of_ble_eq_true rfl) ?_
  unfold f123 at h
  refine wp_seq ?_
  refine L_region ?_
  refine L_as ?_
  refine L_nil ?_
  refine E_n ?_
  refine wp_seq ?_
  refine L_region ?_
  refine L_mv ?_
  refine L_u (P_gt h) ?_
  intro v w h
  refine L_mv ?_
  refine L_g (t := 7) h rfl rfl (fun c h => P_mv h c) ?_
  intro v w h
  refine L_g (t := 7) h rfl rfl (fun c h => P_mv h c) ?_
  intro v w h
  refine L_g (t := 7) h rfl rfl (fun c h => P_nc h c) ?_
  intro v w h
  refine L_g (t := 7) h rfl rfl (fun c h => P_fa fo151_1 h c) ?_
  intro v w h
  refine L_g (t := 7) h rfl rfl (fun c h => P_ld sc100 h c) ?_
  intro v w h
  refine L_g (t := 7) h rfl rfl (fun c h => P_lnl is100 h c) ?_
  intro v w h
  refine L_g (t := 7) h rfl rfl (fun c h => P_lt h c) ?_
  intro v w h
  refine L_u (P_pk h) ?_
  intro v w h
  refine L_mv ?_
  refine L_g (t := 16) h rfl rfl (fun c h => P_mv h c) ?_
  intro v w h
  refine L_g (t := 16) h rfl rfl (fun c h => P_mv h c) ?_
  intro v w h
  refine L_g (t := 16) h rfl rfl (fun c h => N_cl Tryz.func103 rfl nn103 (fun w Q h => s103 _ _ w Q h) h c) ?_
  intro v w h
  refine L_u (P_pk h) ?_
  intro v w h
  refine L_as ?_
  refine L_nil ?_
  refine E_n ?_
  refine C_ret ?_
  show bodyPost Tryz.prog Tryz.f123 (Rt Q) .ret _ _
  exact post_tmps (ts := [4]) (.inr rfl) rfl h

/- (*factotum/factotumref08.Work).Read -/
def f94 (t0 t1 : Value) : M :=
  nc t0 fun t7 =>
  fa 3 t7 fun t8 =>
  ld t8 fun t9 =>
  cnd t9 (
    rt (.tuple #[(.string ⟨#[]⟩), (.int .i64 13)])
    ) (
    cl (f123 t0 t1) fun t12 =>
    nt t12 fun t13 =>
    cnd t13 (
      rt (.tuple #[(.string ⟨#[]⟩), (.int .i64 7)])
      ) (
      nc t0 fun t15 =>
      fa 1 t15 fun t16 =>
      ld t16 fun t17 =>
      ia 1 t17 t1 fun t19 =>
      ld t19 fun t20 =>
      rt (.tuple #[t20, (.int .i64 0)])
      )
    )
theorem s94 (t0 t1 : Value) (w : World) (Q : Value → World → Prop) (h : f94 t0 t1 w Q) : Calls Tryz.prog 94 #[t0, t1] w (Rt Q) := by
  refine calls_of (l := [t0, t1]) Tryz.func94 rfl Tryz.ntmps94 (Nat.le_of_ble_eq_true rfl) ?_
  unfold f94 at h
  refine wp_seq ?_
  refine L_region ?_
  refine L_as ?_
  refine L_as ?_
  refine L_nil ?_
  refine E_n ?_
  refine wp_seq ?_
  refine wp_seq ?_
  refine L_region ?_
  refine L_mv ?_
  refine L_u (P_nc h) ?_
  intro v w h
  refine L_u (P_fa fo151_3 h) ?_
  intro v w h
  refine L_u (P_ld sc4 h) ?_
  intro v w h
  refine L_nil ?_
  refine E_n ?_
  refine C_cnd h (fun h => ?_) (fun h => ?_)
  · refine wp_seq ?_
    refine L_region ?_
    refine L_as ?_
    refine L_as ?_
    refine L_nil ?_
    refine E_n ?_
    refine C_ret ?_
    show bodyPost Tryz.prog Tryz.f94 (Rt Q) .ret _ _
    exact post_tmps (ts := [4, 5]) (.inr rfl) rfl h
  · refine C_skip ?_
    refine E_n ?_
    refine wp_seq ?_
    refine wp_seq ?_
    refine L_region ?_
    refine L_mv ?_
    refine L_mv ?_
    refine L_u (N_cl Tryz.func123 rfl nn123 (fun w Q h => s123 _ _ w Q h) h) ?_
    intro v w h
    refine L_u (P_nt h) ?_
    intro v w h
    refine L_nil ?_
    refine E_n ?_
    refine C_cnd h (fun h => ?_) (fun h => ?_)
    · refine wp_seq ?_
      refine L_region ?_
      refine L_as ?_
      refine L_as ?_
      refine L_nil ?_
      refine E_n ?_
      refine C_ret ?_
      show bodyPost Tryz.prog Tryz.f94 (Rt Q) .ret _ _
      exact post_tmps (ts := [4, 5]) (.inr rfl) rfl h
    · refine C_skip ?_
      refine E_n ?_
      refine wp_seq ?_
      refine L_region ?_
      refine L_mv ?_
      refine L_u (P_nc h) ?_
      intro v w h
      refine L_u (P_fa fo151_1 h) ?_
      intro v w h
      refine L_u (P_ld sc100 h) ?_
      intro v w h
      refine L_mv ?_
      refine L_u (P_ia se100 h) ?_
      intro v w h
      refine L_u (P_ld sc9 h) ?_
      intro v w h
      refine L_as ?_
      refine L_as ?_
      refine L_nil ?_
      refine E_n ?_
      refine C_ret ?_
      show bodyPost Tryz.prog Tryz.f94 (Rt Q) .ret _ _
      exact post_tmps (ts := [4, 5]) (.inr rfl) rfl h

/- factotum/factotumlaw08.fill -/
def f95_b2 (j1 : Value → M) (self2 : Value → Value → Value → Value → M) (t0_1 t1_1 t5 t6 : Value) : M :=
  lt .i64 t6 t1_1 fun t11 =>
  cnd t11 (
    ia 1 t5 t6 fun t17 =>
    st t17 t0_1 <|
    ad .i64 t6 (.int .i64 1) fun t13 =>
    self2 t0_1 t1_1 t5 t13
    ) (
    j1 t5
    )
def f95_j1 (t5_1 : Value) : M :=
  smr Tryz.prog (convert 42 9 t5_1) fun t19 =>
  rt t19
def f95 (t0 t1 : Value) : M :=
  sm Tryz.prog (Instr.makeSlice 42 t1 t1) fun t8 =>
  jn (fun (j1 : Value → M) =>
    lo (fun _ _ _ _ => bot) (f95_b2 j1) (fun l => l t0 t1 t8 (.int .i64 0))
    ) (f95_j1)
theorem s95 (t0 t1 : Value) (w : World) (Q : Value → World → Prop) (h : f95 t0 t1 w Q) : Calls Tryz.prog 95 #[t0, t1] w (Rt Q) := by
  refine calls_of (l := [t0, t1]) Tryz.func95 rfl Tryz.ntmps95 (Nat.le_of_ble_eq_true rfl) ?_
  unfold f95 at h
  refine wp_seq ?_
  refine L_region ?_
  refine L_as ?_
  refine L_nil ?_
  refine E_n ?_
  refine wp_seq ?_
  refine L_region ?_
  refine L_mv ?_
  refine L_u (P_sm rfl h) ?_
  intro v w h
  refine L_as ?_
  refine L_nil ?_
  refine E_n ?_
  refine wp_seq ?_
  refine wp_seq ?_
  refine L_region ?_
  refine L_as ?_
  refine L_nil ?_
  refine E_n ?_
  refine C_join (fun (k : Value → M) (ρ : Nat → Value) => k (ρ 5)) h (fun j1 J1 h => ?_) (fun ρ w h => ?_)
  · refine C_blk ?_
    refine C_lo (fun (l : Value → Value → Value → Value → M) (ρ : Nat → Value) => l (ρ 0) (ρ 1) (ρ 5) (ρ 6)) h (fun ρ w h => h) (fun nx self2 L2 ρ w h => ?_)
    unfold f95_b2 at h
    refine wp_seq ?_
    refine wp_seq ?_
    refine L_region ?_
    refine L_mv ?_
    refine L_mv ?_
    refine L_u (P_lt h) ?_
    intro v w h
    refine L_nil ?_
    refine E_n ?_
    refine C_cnd h (fun h => ?_) (fun h => ?_)
    · refine C_skip ?_
      refine E_n ?_
      refine wp_seq ?_
      refine C_blk ?_
      refine L_region ?_
      refine L_mv ?_
      refine L_mv ?_
      refine L_mv ?_
      refine L_u (P_ia se42 h) ?_
      intro v w h
      refine L_u (P_st on5 h) ?_
      intro w h
      refine L_nil ?_
      refine B_n ?_
      refine E_n ?_
      refine L_region ?_
      refine L_mv ?_
      refine L_u (P_ad h) ?_
      intro v w h
      refine L_as ?_
      refine L_nil ?_
      refine E_n ?_
      exact L2 _ _ h
    · refine C_exit ?_
      refine E_x ?_
      refine E_x ?_
      refine B_x ?_
      exact J1 _ _ h
  · unfold f95_j1 at h
    refine E_n ?_
    refine wp_seq ?_
    refine L_region ?_
    refine L_mv ?_
    refine L_u (P_smr rfl h) ?_
    intro v w h
    refine L_as ?_
    refine L_nil ?_
    refine E_n ?_
    refine C_ret ?_
    show bodyPost Tryz.prog Tryz.f95 (Rt Q) .ret _ _
    exact post_tmps (ts := [4]) (.inr rfl) rfl h

/- (*factotum/factotumref08.Work).Write -/
def f96 (t0 t1 t2 : Value) : M :=
  nc t0 fun t8 =>
  fa 3 t8 fun t9 =>
  ld t9 fun t10 =>
  cnd t10 (
    rt (.int .i64 13)
    ) (
    cl (f123 t0 t1) fun t13 =>
    nt t13 fun t14 =>
    cnd t14 (
      rt (.int .i64 7)
      ) (
      lns t2 fun t16 =>
      nei .i64 t16 (.int .i64 256) fun t17 =>
      cnd t17 (
        rt (.int .i64 1)
        ) (
        nc t0 fun t19 =>
        fa 1 t19 fun t20 =>
        ld t20 fun t21 =>
        ia 1 t21 t1 fun t24 =>
        st t24 t2 <|
        rt (.int .i64 0)
        )
      )
    )
theorem s96 (t0 t1 t2 : Value) (w : World) (Q : Value → World → Prop) (h : f96 t0 t1 t2 w Q) : Calls Tryz.prog 96 #[t0, t1, t2] w (Rt Q) := by
  refine calls_of (l := [t0, t1, t2]) Tryz.func96 rfl Tryz.ntmps96 (Nat.le_of_ble_eq_true rfl) ?_
  unfold f96 at h
  refine wp_seq ?_
  refine L_region ?_
  refine L_as ?_
  refine L_nil ?_
  refine E_n ?_
  refine wp_seq ?_
  refine wp_seq ?_
  refine L_region ?_
  refine L_mv ?_
  refine L_u (P_nc h) ?_
  intro v w h
  refine L_u (P_fa fo151_3 h) ?_
  intro v w h
  refine L_u (P_ld sc4 h) ?_
  intro v w h
  refine L_nil ?_
  refine E_n ?_
  refine C_cnd h (fun h => ?_) (fun h => ?_)
  · refine wp_seq ?_
    refine L_region ?_
    refine L_as ?_
    refine L_nil ?_
    refine E_n ?_
    refine C_ret ?_
    show bodyPost Tryz.prog Tryz.f96 (Rt Q) .ret _ _
    exact post_tmps (ts := [6]) (.inr rfl) rfl h
  · refine C_skip ?_
    refine E_n ?_
    refine wp_seq ?_
    refine wp_seq ?_
    refine L_region ?_
    refine L_mv ?_
    refine L_mv ?_
    refine L_u (N_cl Tryz.func123 rfl nn123 (fun w Q h => s123 _ _ w Q h) h) ?_
    intro v w h
    refine L_u (P_nt h) ?_
    intro v w h
    refine L_nil ?_
    refine E_n ?_
    refine C_cnd h (fun h => ?_) (fun h => ?_)
    · refine wp_seq ?_
      refine L_region ?_
      refine L_as ?_
      refine L_nil ?_
      refine E_n ?_
      refine C_ret ?_
      show bodyPost Tryz.prog Tryz.f96 (Rt Q) .ret _ _
      exact post_tmps (ts := [6]) (.inr rfl) rfl h
    · refine C_skip ?_
      refine E_n ?_
      refine wp_seq ?_
      refine wp_seq ?_
      refine L_region ?_
      refine L_mv ?_
      refine L_u (P_lns st9 h) ?_
      intro v w h
      refine L_u (P_nei h) ?_
      intro v w h
      refine L_nil ?_
      refine E_n ?_
      refine C_cnd h (fun h => ?_) (fun h => ?_)
      · refine wp_seq ?_
        refine L_region ?_
        refine L_as ?_
        refine L_nil ?_
        refine E_n ?_
        refine C_ret ?_
        show bodyPost Tryz.prog Tryz.f96 (Rt Q) .ret _ _
        exact post_tmps (ts := [6]) (.inr rfl) rfl h
      · refine C_skip ?_
        refine E_n ?_
        refine wp_seq ?_
        refine L_region ?_
        refine L_mv ?_
        refine L_u (P_nc h) ?_
        intro v w h
        refine L_u (P_fa fo151_1 h) ?_
        intro v w h
        refine L_u (P_ld sc100 h) ?_
        intro v w h
        refine L_mv ?_
        refine L_mv ?_
        refine L_u (P_ia se100 h) ?_
        intro v w h
        refine L_u (P_st on9 h) ?_
        intro w h
        refine L_nil ?_
        refine E_n ?_
        refine wp_seq ?_
        refine L_region ?_
        refine L_as ?_
        refine L_nil ?_
        refine E_n ?_
        refine C_ret ?_
        show bodyPost Tryz.prog Tryz.f96 (Rt Q) .ret _ _
        exact post_tmps (ts := [6]) (.inr rfl) rfl h

/- (*factotum/factotumref08.Work).turn -/
def f124 (t0 t1 : Value) : M :=
  nc t0 fun t6 =>
  fa 1 t6 fun t7 =>
  ld t7 fun t8 =>
  ia 1 t8 (.int .i64 0) fun t9 =>
  ld t9 fun t10 =>
  sm Tryz.prog (convert 9 42 t10) fun t11 =>
  qu .i64 t1 (.int .i64 8) fun t14 =>
  ia 1 t11 t14 fun t15 =>
  ld t15 fun t16 =>
  re .i64 t1 (.int .i64 8) fun t18 =>
  cv .u64 t18 fun t19 =>
  shl .u8 .u64 (.int .u8 1) t19 fun t20 =>
  bws .xor .u8 t16 t20 fun t21 =>
  ia 1 t11 t14 fun t22 =>
  st t22 t21 <|
  dr <|
  idv t0 fun t23 =>
  nc t23 fun t24 =>
  fa 1 t24 fun t25 =>
  ld t25 fun t26 =>
  idv t11 fun t27 =>
  smr Tryz.prog (convert 42 9 t27) fun t28 =>
  ia 1 t26 (.int .i64 0) fun t29 =>
  st t29 t28 <|
  rt (.tuple #[])
theorem s124 (t0 t1 : Value) (w : World) (Q : Value → World → Prop) (h : f124 t0 t1 w Q) : Calls Tryz.prog 124 #[t0, t1] w (Rt Q) := by
  refine calls_of (l := [t0, t1]) Tryz.func124 rfl Tryz.ntmps124 (Nat.le_of_ble_eq_true rfl) ?_
  unfold f124 at h
  refine wp_seq ?_
  refine L_region ?_
  refine L_mv ?_
  refine L_u (P_nc h) ?_
  intro v w h
  refine L_u (P_fa fo151_1 h) ?_
  intro v w h
  refine L_u (P_ld sc100 h) ?_
  intro v w h
  refine L_u (P_ia se100 h) ?_
  intro v w h
  refine L_u (P_ld sc9 h) ?_
  intro v w h
  refine L_u (P_sm rfl h) ?_
  intro v w h
  refine L_as ?_
  refine L_nil ?_
  refine E_n ?_
  refine wp_seq ?_
  refine L_region ?_
  refine L_mv ?_
  refine L_mv ?_
  refine L_u (P_qu h) ?_
  intro v w h
  refine L_u (P_ia se42 h) ?_
  intro v w h
  refine L_u (P_ld sc5 h) ?_
  intro v w h
  refine L_mv ?_
  refine L_u (P_re h) ?_
  intro v w h
  refine L_u (P_cv ai3 in37 h) ?_
  intro v w h
  refine L_u (P_shl h) ?_
  intro v w h
  refine L_u (P_bits rfl h) ?_
  intro v w h
  refine L_u (P_ia se42 h) ?_
  intro v w h
  refine L_u (P_st on5 h) ?_
  intro w h
  refine L_nil ?_
  refine E_n ?_
  refine D_region (by decide +kernel) 8 rfl ?_
  replace h := dr_e h
  refine G_p 0 rfl (by decide +kernel) (Y_mv h) ?_
  intro v h
  refine G_p 1 rfl (by decide +kernel) (Y_nc h) ?_
  intro v h
  refine G_p 2 rfl (by decide +kernel) (Y_fa fo151_1 h) ?_
  intro v h
  refine G_r _ 3 rfl (by decide +kernel) (R_ld sc100 h) ?_
  intro v h
  refine G_p 4 rfl (by decide +kernel) (Y_mv h) ?_
  intro v h
  refine G_r _ 5 rfl (by decide +kernel) (R_sm rfl h) ?_
  intro v h
  refine G_p 6 rfl (by decide +kernel) (Y_ia se100 h) ?_
  intro v h
  refine G_e 7 rfl (by decide +kernel) (P_st on9 h ?_)
  intro w h
  refine ⟨keepF_dep [5] (by decide +kernel) rfl (keepF_dep [3] (by decide +kernel) rfl keepF_nil), ?_⟩
  refine G_done (by decide +kernel) ?_
  show bodyPost Tryz.prog Tryz.f124 (Rt Q) .normal _ _
  exact post_tmps (ts := []) (.inl rfl) rfl h

/- (*factotum/factotumref08.Work).Take -/
def f97_b2 (j1 : M) (self2 : Value → Value → M) (t0_1 t4 : Value) : M :=
  nc t0_1 fun t11 =>
  fa 1 t11 fun t12 =>
  ld t12 fun t13 =>
  lnl t13 fun t14 =>
  lt .i64 t4 t14 fun t15 =>
  cnd t15 (
    cl (f103 t0_1 t4) fun t20 =>
    nt t20 fun t21 =>
    cnd t21 (
      cl (f124 t0_1 t4) fun t24 =>
      dr <|
      idv t0_1 fun t25 =>
      nc t25 fun t26 =>
      fa 1 t26 fun t27 =>
      ld t27 fun t28 =>
      idv t4 fun t29 =>
      cl (f88) fun t30 =>
      kp (Kld t27 t28) <|
      ia 1 t28 t29 fun t31 =>
      st t31 t30 <|
      rt (.tuple #[t4, (.int .i64 0)])
      ) (
      ad .i64 t4 (.int .i64 1) fun t17 =>
      self2 t0_1 t17
      )
    ) (
    j1
    )
def f97_j1 : M :=
  rt (.tuple #[(.int .i64 0), (.int .i64 8)])
def f97 (t0 : Value) : M :=
  nc t0 fun t6 =>
  fa 3 t6 fun t7 =>
  ld t7 fun t8 =>
  cnd t8 (
    rt (.tuple #[(.int .i64 0), (.int .i64 13)])
    ) (
    jn (fun (j1 : M) =>
      lo (fun _ _ => bot) (f97_b2 j1) (fun l => l t0 (.int .i64 1))
      ) (f97_j1)
    )
theorem s97 (t0 : Value) (w : World) (Q : Value → World → Prop) (h : f97 t0 w Q) : Calls Tryz.prog 97 #[t0] w (Rt Q) := by
  refine calls_of (l := [t0]) Tryz.func97 rfl Tryz.ntmps97 (Nat.le_of_ble_eq_true rfl) ?_
  unfold f97 at h
  refine wp_seq ?_
  refine L_region ?_
  refine L_as ?_
  refine L_as ?_
  refine L_nil ?_
  refine E_n ?_
  refine wp_seq ?_
  refine wp_seq ?_
  refine L_region ?_
  refine L_mv ?_
  refine L_u (P_nc h) ?_
  intro v w h
  refine L_u (P_fa fo151_3 h) ?_
  intro v w h
  refine L_u (P_ld sc4 h) ?_
  intro v w h
  refine L_nil ?_
  refine E_n ?_
  refine C_cnd h (fun h => ?_) (fun h => ?_)
  · refine wp_seq ?_
    refine L_region ?_
    refine L_as ?_
    refine L_as ?_
    refine L_nil ?_
    refine E_n ?_
    refine C_ret ?_
    show bodyPost Tryz.prog Tryz.f97 (Rt Q) .ret _ _
    exact post_tmps (ts := [2, 3]) (.inr rfl) rfl h
  · refine C_skip ?_
    refine E_n ?_
    refine wp_seq ?_
    refine wp_seq ?_
    refine L_region ?_
    refine L_as ?_
    refine L_nil ?_
    refine E_n ?_
    refine C_join (fun (k : M) (ρ : Nat → Value) => k) h (fun j1 J1 h => ?_) (fun ρ w h => ?_)
    · refine C_blk ?_
      refine C_lo (fun (l : Value → Value → M) (ρ : Nat → Value) => l (ρ 0) (ρ 4)) h (fun ρ w h => h) (fun nx self2 L2 ρ w h => ?_)
      unfold f97_b2 at h
      refine wp_seq ?_
      refine wp_seq ?_
      refine L_region ?_
      refine L_mv ?_
      refine L_mv ?_
      refine L_u (P_nc h) ?_
      intro v w h
      refine L_u (P_fa fo151_1 h) ?_
      intro v w h
      refine L_u (P_ld sc100 h) ?_
      intro v w h
      refine L_u (P_lnl is100 h) ?_
      intro v w h
      refine L_u (P_lt h) ?_
      intro v w h
      refine L_nil ?_
      refine E_n ?_
      refine C_cnd h (fun h => ?_) (fun h => ?_)
      · refine C_skip ?_
        refine E_n ?_
        refine wp_seq ?_
        refine C_blk ?_
        refine wp_seq ?_
        refine L_region ?_
        refine L_mv ?_
        refine L_mv ?_
        refine L_u (N_cl Tryz.func103 rfl nn103 (fun w Q h => s103 _ _ w Q h) h) ?_
        intro v w h
        refine L_u (P_nt h) ?_
        intro v w h
        refine L_nil ?_
        refine E_n ?_
        refine C_cnd h (fun h => ?_) (fun h => ?_)
        · refine wp_seq ?_
          refine L_region ?_
          refine L_mv ?_
          refine L_mv ?_
          refine L_u (N_cl Tryz.func124 rfl nn124 (fun w Q h => s124 _ _ w Q h) h) ?_
          intro v w h
          refine L_nil ?_
          refine E_n ?_
          refine wp_seq ?_
          refine D_region (by decide +kernel) 8 rfl ?_
          replace h := dr_e h
          refine G_p 0 rfl (by decide +kernel) (Y_mv h) ?_
          intro v h
          refine G_p 1 rfl (by decide +kernel) (Y_nc h) ?_
          intro v h
          refine G_p 2 rfl (by decide +kernel) (Y_fa fo151_1 h) ?_
          intro v h
          refine G_r _ 3 rfl (by decide +kernel) (R_ld sc100 h) ?_
          intro v h
          refine G_p 4 rfl (by decide +kernel) (Y_mv h) ?_
          intro v h
          refine G_e 5 rfl (by decide +kernel) (N_cl Tryz.func88 rfl nn88 (fun w Q h => s88 w Q h) h ?_)
          intro v w h
          refine ⟨keepF_cons (kp_1 h) keepF_nil, ?_⟩
          replace h := (kp_2 h)
          refine G_p 6 rfl (by decide +kernel) (Y_ia se100 h) ?_
          intro v h
          refine G_e 7 rfl (by decide +kernel) (P_st on9 h ?_)
          intro w h
          refine ⟨keepF_dep [3] (by decide +kernel) rfl keepF_nil, ?_⟩
          refine G_done (by decide +kernel) ?_
          refine E_n ?_
          refine wp_seq ?_
          refine L_region ?_
          refine L_mv ?_
          refine L_as ?_
          refine L_as ?_
          refine L_nil ?_
          refine E_n ?_
          refine C_ret ?_
          show bodyPost Tryz.prog Tryz.f97 (Rt Q) .ret _ _
          exact post_tmps (ts := [2, 3]) (.inr rfl) rfl h
        · refine C_skip ?_
          refine B_n ?_
          refine E_n ?_
          refine L_region ?_
          refine L_mv ?_
          refine L_u (P_ad h) ?_
          intro v w h
          refine L_as ?_
          refine L_nil ?_
          refine E_n ?_
          exact L2 _ _ h
      · refine C_exit ?_
        refine E_x ?_
        refine E_x ?_
        refine B_x ?_
        exact J1 _ _ h
    · unfold f97_j1 at h
      refine E_n ?_
      refine wp_seq ?_
      refine L_region ?_
      refine L_as ?_
      refine L_as ?_
      refine L_nil ?_
      refine E_n ?_
      refine C_ret ?_
      show bodyPost Tryz.prog Tryz.f97 (Rt Q) .ret _ _
      exact post_tmps (ts := [2, 3]) (.inr rfl) rfl h

/- (*factotum/factotumref08.Work).Drop -/
def f98 (t0 t1 : Value) : M :=
  nc t0 fun t6 =>
  fa 3 t6 fun t7 =>
  ld t7 fun t8 =>
  cnd t8 (
    rt (.int .i64 13)
    ) (
    cl (f123 t0 t1) fun t11 =>
    nt t11 fun t12 =>
    cnd t12 (
      rt (.int .i64 7)
      ) (
      cl (f124 t0 t1) fun t15 =>
      rt (.int .i64 0)
      )
    )
theorem s98 (t0 t1 : Value) (w : World) (Q : Value → World → Prop) (h : f98 t0 t1 w Q) : Calls Tryz.prog 98 #[t0, t1] w (Rt Q) := by
  refine calls_of (l := [t0, t1]) Tryz.func98 rfl Tryz.ntmps98 (Nat.le_of_ble_eq_true rfl) ?_
  unfold f98 at h
  refine wp_seq ?_
  refine L_region ?_
  refine L_as ?_
  refine L_nil ?_
  refine E_n ?_
  refine wp_seq ?_
  refine wp_seq ?_
  refine L_region ?_
  refine L_mv ?_
  refine L_u (P_nc h) ?_
  intro v w h
  refine L_u (P_fa fo151_3 h) ?_
  intro v w h
  refine L_u (P_ld sc4 h) ?_
  intro v w h
  refine L_nil ?_
  refine E_n ?_
  refine C_cnd h (fun h => ?_) (fun h => ?_)
  · refine wp_seq ?_
    refine L_region ?_
    refine L_as ?_
    refine L_nil ?_
    refine E_n ?_
    refine C_ret ?_
    show bodyPost Tryz.prog Tryz.f98 (Rt Q) .ret _ _
    exact post_tmps (ts := [4]) (.inr rfl) rfl h
  · refine C_skip ?_
    refine E_n ?_
    refine wp_seq ?_
    refine wp_seq ?_
    refine L_region ?_
    refine L_mv ?_
    refine L_mv ?_
    refine L_u (N_cl Tryz.func123 rfl nn123 (fun w Q h => s123 _ _ w Q h) h) ?_
    intro v w h
    refine L_u (P_nt h) ?_
    intro v w h
    refine L_nil ?_
    refine E_n ?_
    refine C_cnd h (fun h => ?_) (fun h => ?_)
    · refine wp_seq ?_
      refine L_region ?_
      refine L_as ?_
      refine L_nil ?_
      refine E_n ?_
      refine C_ret ?_
      show bodyPost Tryz.prog Tryz.f98 (Rt Q) .ret _ _
      exact post_tmps (ts := [4]) (.inr rfl) rfl h
    · refine C_skip ?_
      refine E_n ?_
      refine wp_seq ?_
      refine L_region ?_
      refine L_mv ?_
      refine L_mv ?_
      refine L_u (N_cl Tryz.func124 rfl nn124 (fun w Q h => s124 _ _ w Q h) h) ?_
      intro v w h
      refine L_nil ?_
      refine E_n ?_
      refine wp_seq ?_
      refine L_region ?_
      refine L_as ?_
      refine L_nil ?_
      refine E_n ?_
      refine C_ret ?_
      show bodyPost Tryz.prog Tryz.f98 (Rt Q) .ret _ _
      exact post_tmps (ts := [4]) (.inr rfl) rfl h

/- (*factotum/factotumref08.Work).SetHead -/
def f99 (t0 t1 : Value) : M :=
  nc t0 fun t6 =>
  fa 3 t6 fun t7 =>
  ld t7 fun t8 =>
  cnd t8 (
    rt (.int .i64 13)
    ) (
    lns t1 fun t10 =>
    gt .i64 t10 (.int .i64 236) fun t11 =>
    cnd t11 (
      rt (.int .i64 3)
      ) (
      dr <|
      idv t0 fun t12 =>
      nc t12 fun t13 =>
      fa 1 t13 fun t14 =>
      ld t14 fun t15 =>
      idv t0 fun t16 =>
      nc t16 fun t17 =>
      fa 1 t17 fun t18 =>
      ld t18 fun t19 =>
      ia 1 t19 (.int .i64 0) fun t20 =>
      ld t20 fun t21 =>
      sls t21 none (some (.int .i64 20)) fun t22 =>
      idv t1 fun t23 =>
      cat t22 t23 fun t24 =>
      idv t1 fun t26 =>
      lns t26 fun t27 =>
      su .i64 (.int .i64 236) t27 fun t28 =>
      cl (f88) fun t25 =>
      kp (Kld t20 t21) <|
      kp (Kld t18 t19) <|
      kp (Kld t14 t15) <|
      sls t25 none (some t28) fun t29 =>
      cat t24 t29 fun t30 =>
      ia 1 t15 (.int .i64 0) fun t31 =>
      st t31 t30 <|
      rt (.int .i64 0)
      )
    )
theorem s99 (t0 t1 : Value) (w : World) (Q : Value → World → Prop) (h : f99 t0 t1 w Q) : Calls Tryz.prog 99 #[t0, t1] w (Rt Q) := by
  refine calls_of (l := [t0, t1]) Tryz.func99 rfl Tryz.ntmps99 (Nat.le_of_ble_eq_true rfl) ?_
  unfold f99 at h
  refine wp_seq ?_
  refine L_region ?_
  refine L_as ?_
  refine L_nil ?_
  refine E_n ?_
  refine wp_seq ?_
  refine wp_seq ?_
  refine L_region ?_
  refine L_mv ?_
  refine L_u (P_nc h) ?_
  intro v w h
  refine L_u (P_fa fo151_3 h) ?_
  intro v w h
  refine L_u (P_ld sc4 h) ?_
  intro v w h
  refine L_nil ?_
  refine E_n ?_
  refine C_cnd h (fun h => ?_) (fun h => ?_)
  · refine wp_seq ?_
    refine L_region ?_
    refine L_as ?_
    refine L_nil ?_
    refine E_n ?_
    refine C_ret ?_
    show bodyPost Tryz.prog Tryz.f99 (Rt Q) .ret _ _
    exact post_tmps (ts := [4]) (.inr rfl) rfl h
  · refine C_skip ?_
    refine E_n ?_
    refine wp_seq ?_
    refine wp_seq ?_
    refine L_region ?_
    refine L_mv ?_
    refine L_u (P_lns st9 h) ?_
    intro v w h
    refine L_u (P_gt h) ?_
    intro v w h
    refine L_nil ?_
    refine E_n ?_
    refine C_cnd h (fun h => ?_) (fun h => ?_)
    · refine wp_seq ?_
      refine L_region ?_
      refine L_as ?_
      refine L_nil ?_
      refine E_n ?_
      refine C_ret ?_
      show bodyPost Tryz.prog Tryz.f99 (Rt Q) .ret _ _
      exact post_tmps (ts := [4]) (.inr rfl) rfl h
    · refine C_skip ?_
      refine E_n ?_
      refine wp_seq ?_
      refine D_region (by decide +kernel) 21 rfl ?_
      replace h := dr_e h
      refine G_p 0 rfl (by decide +kernel) (Y_mv h) ?_
      intro v h
      refine G_p 1 rfl (by decide +kernel) (Y_nc h) ?_
      intro v h
      refine G_p 2 rfl (by decide +kernel) (Y_fa fo151_1 h) ?_
      intro v h
      refine G_r _ 3 rfl (by decide +kernel) (R_ld sc100 h) ?_
      intro v h
      refine G_p 4 rfl (by decide +kernel) (Y_mv h) ?_
      intro v h
      refine G_p 5 rfl (by decide +kernel) (Y_nc h) ?_
      intro v h
      refine G_p 6 rfl (by decide +kernel) (Y_fa fo151_1 h) ?_
      intro v h
      refine G_r _ 7 rfl (by decide +kernel) (R_ld sc100 h) ?_
      intro v h
      refine G_p 8 rfl (by decide +kernel) (Y_ia se100 h) ?_
      intro v h
      refine G_r _ 9 rfl (by decide +kernel) (R_ld sc9 h) ?_
      intro v h
      refine G_p 10 rfl (by decide +kernel) (Y_sls st9 h) ?_
      intro v h
      refine G_p 11 rfl (by decide +kernel) (Y_mv h) ?_
      intro v h
      refine G_p 12 rfl (by decide +kernel) (Y_cat h) ?_
      intro v h
      refine G_p 14 rfl (by decide +kernel) (Y_mv h) ?_
      intro v h
      refine G_p 15 rfl (by decide +kernel) (Y_lns st9 h) ?_
      intro v h
      refine G_p 16 rfl (by decide +kernel) (Y_su h) ?_
      intro v h
      refine G_e 13 rfl (by decide +kernel) (N_cl Tryz.func88 rfl nn88 (fun w Q h => s88 w Q h) h ?_)
      intro v w h
      refine ⟨keepF_cons (kp_1 h) (keepF_cons (kp_1 (kp_2 h)) (keepF_cons (kp_1 (kp_2 (kp_2 h))) keepF_nil)), ?_⟩
      replace h := (kp_2 (kp_2 (kp_2 h)))
      refine G_p 17 rfl (by decide +kernel) (Y_sls st9 h) ?_
      intro v h
      refine G_p 18 rfl (by decide +kernel) (Y_cat h) ?_
      intro v h
      refine G_p 19 rfl (by decide +kernel) (Y_ia se100 h) ?_
      intro v h
      refine G_e 20 rfl (by decide +kernel) (P_st on9 h ?_)
      intro w h
      refine ⟨keepF_dep [9] (by decide +kernel) rfl (keepF_dep [7] (by decide +kernel) rfl (keepF_dep [3] (by decide +kernel) rfl keepF_nil)), ?_⟩
      refine G_done (by decide +kernel) ?_
      refine E_n ?_
      refine wp_seq ?_
      refine L_region ?_
      refine L_as ?_
      refine L_nil ?_
      refine E_n ?_
      refine C_ret ?_
      show bodyPost Tryz.prog Tryz.f99 (Rt Q) .ret _ _
      exact post_tmps (ts := [4]) (.inr rfl) rfl h

/- (*factotum/factotumref08.Work).Save -/
def f100 (t0 : Value) : M :=
  nc t0 fun t4 =>
  fa 3 t4 fun t5 =>
  ld t5 fun t6 =>
  cnd t6 (
    rt (.int .i64 0)
    ) (
    dr <|
    idv t0 fun t7 =>
    idv t0 fun t8 =>
    nc t8 fun t9 =>
    fa 2 t9 fun t10 =>
    ld t10 fun t11 =>
    idv t0 fun t12 =>
    nc t12 fun t13 =>
    fa 1 t13 fun t14 =>
    ld t14 fun t15 =>
    sm Tryz.prog (Builtin.append_ #[100, 100] 100 #[(.slice none 0 0), t15]) fun t16 =>
    kp (Kld t10 t11) <|
    sm Tryz.prog (Instr.buildSlice 149 1 #[(0, t16)]) fun t17 =>
    kp (Kld t10 t11) <|
    sm Tryz.prog (Builtin.append_ #[149, 149] 149 #[t11, t17]) fun t18 =>
    nc t7 fun t19 =>
    fa 2 t19 fun t20 =>
    st t20 t18 <|
    nc t0 fun t22 =>
    fa 2 t22 fun t23 =>
    ld t23 fun t24 =>
    lnl t24 fun t25 =>
    su .i64 t25 (.int .i64 1) fun t26 =>
    rt t26
    )
theorem s100 (t0 : Value) (w : World) (Q : Value → World → Prop) (h : f100 t0 w Q) : Calls Tryz.prog 100 #[t0] w (Rt Q) := by
  refine calls_of (l := [t0]) Tryz.func100 rfl Tryz.ntmps100 (Nat.le_of_ble_eq_true rfl) ?_
  unfold f100 at h
  refine wp_seq ?_
  refine L_region ?_
  refine L_as ?_
  refine L_nil ?_
  refine E_n ?_
  refine wp_seq ?_
  refine wp_seq ?_
  refine L_region ?_
  refine L_mv ?_
  refine L_u (P_nc h) ?_
  intro v w h
  refine L_u (P_fa fo151_3 h) ?_
  intro v w h
  refine L_u (P_ld sc4 h) ?_
  intro v w h
  refine L_nil ?_
  refine E_n ?_
  refine C_cnd h (fun h => ?_) (fun h => ?_)
  · refine wp_seq ?_
    refine L_region ?_
    refine L_as ?_
    refine L_nil ?_
    refine E_n ?_
    refine C_ret ?_
    show bodyPost Tryz.prog Tryz.f100 (Rt Q) .ret _ _
    exact post_tmps (ts := [2]) (.inr rfl) rfl h
  · refine C_skip ?_
    refine E_n ?_
    refine wp_seq ?_
    refine D_region (by decide +kernel) 15 rfl ?_
    replace h := dr_e h
    refine G_p 0 rfl (by decide +kernel) (Y_mv h) ?_
    intro v h
    refine G_p 1 rfl (by decide +kernel) (Y_mv h) ?_
    intro v h
    refine G_p 2 rfl (by decide +kernel) (Y_nc h) ?_
    intro v h
    refine G_p 3 rfl (by decide +kernel) (Y_fa fo151_2 h) ?_
    intro v h
    refine G_r _ 4 rfl (by decide +kernel) (R_ld sc149 h) ?_
    intro v h
    refine G_p 5 rfl (by decide +kernel) (Y_mv h) ?_
    intro v h
    refine G_p 6 rfl (by decide +kernel) (Y_nc h) ?_
    intro v h
    refine G_p 7 rfl (by decide +kernel) (Y_fa fo151_1 h) ?_
    intro v h
    refine G_r _ 8 rfl (by decide +kernel) (R_ld sc100 h) ?_
    intro v h
    refine G_e 9 rfl (by decide +kernel) (N_bi rfl h ?_)
    intro v w h
    refine ⟨keepF_dep [8] (by decide +kernel) rfl (keepF_cons (kp_1 h) keepF_nil), ?_⟩
    replace h := (kp_2 h)
    refine G_e 10 rfl (by decide +kernel) (N_bsl h ?_)
    intro v w h
    refine ⟨keepF_dep [9, 8] (by decide +kernel) rfl (keepF_cons (kp_1 h) keepF_nil), ?_⟩
    replace h := (kp_2 h)
    refine G_e 11 rfl (by decide +kernel) (N_bi rfl h ?_)
    intro v w h
    refine ⟨keepF_dep [9, 8] (by decide +kernel) rfl (keepF_dep [4] (by decide +kernel) rfl keepF_nil), ?_⟩
    refine G_p 12 rfl (by decide +kernel) (Y_nc h) ?_
    intro v h
    refine G_p 13 rfl (by decide +kernel) (Y_fa fo151_2 h) ?_
    intro v h
    refine G_e 14 rfl (by decide +kernel) (P_st on149 h ?_)
    intro w h
    refine ⟨keepF_dep [8] (by decide +kernel) rfl (keepF_dep [4] (by decide +kernel) rfl keepF_nil), ?_⟩
    refine G_done (by decide +kernel) ?_
    refine E_n ?_
    refine wp_seq ?_
    refine L_region ?_
    refine L_mv ?_
    refine L_u (P_nc h) ?_
    intro v w h
    refine L_u (P_fa fo151_2 h) ?_
    intro v w h
    refine L_u (P_ld sc149 h) ?_
    intro v w h
    refine L_u (P_lnl is149 h) ?_
    intro v w h
    refine L_u (P_su h) ?_
    intro v w h
    refine L_as ?_
    refine L_nil ?_
    refine E_n ?_
    refine C_ret ?_
    show bodyPost Tryz.prog Tryz.f100 (Rt Q) .ret _ _
    exact post_tmps (ts := [2]) (.inr rfl) rfl h

/- (*factotum/factotumref08.Work).Back -/
def f101 (t0 t1 : Value) : M :=
  nc t0 fun t6 =>
  fa 3 t6 fun t7 =>
  ld t7 fun t8 =>
  cnd t8 (
    rt (.int .i64 13)
    ) (
    lt .i64 t1 (.int .i64 0) fun t10 =>
    gd t10 false (idv t1) fun t12 =>
    gd t10 false (idv t0) fun t13 =>
    gd t10 false (nc t13) fun t14 =>
    gd t10 false (fa 2 t14) fun t15 =>
    gd t10 false (ld t15) fun t16 =>
    gd t10 false (lnl t16) fun t17 =>
    gd t10 false (ge .i64 t12 t17) fun t18 =>
    pk t10 (.bool true) t18 fun t19 =>
    cnd t19 (
      rt (.int .i64 7)
      ) (
      nc t0 fun t22 =>
      fa 2 t22 fun t23 =>
      ld t23 fun t24 =>
      ia 1 t24 t1 fun t26 =>
      ld t26 fun t27 =>
      sm Tryz.prog (Builtin.append_ #[100, 100] 100 #[(.slice none 0 0), t27]) fun t28 =>
      nc t0 fun t29 =>
      fa 1 t29 fun t30 =>
      st t30 t28 <|
      nc t0 fun t33 =>
      fa 2 t33 fun t34 =>
      ld t34 fun t35 =>
      ad .i64 t1 (.int .i64 1) fun t37 =>
      sll 1 t35 none (some t37) fun t38 =>
      nc t0 fun t39 =>
      fa 2 t39 fun t40 =>
      st t40 t38 <|
      rt (.int .i64 0)
      )
    )
theorem s101 (t0 t1 : Value) (w : World) (Q : Value → World → Prop) (h : f101 t0 t1 w Q) : Calls Tryz.prog 101 #[t0, t1] w (Rt Q) := by
  refine calls_of (l := [t0, t1]) Tryz.func101 rfl Tryz.ntmps101 (Nat.le_of_ble_eq_true rfl) ?_
  unfold f101 at h
  refine wp_seq ?_
  refine L_region ?_
  refine L_as ?_
  refine L_nil ?_
  refine E_n ?_
  refine wp_seq ?_
  refine wp_seq ?_
  refine L_region ?_
  refine L_mv ?_
  refine L_u (P_nc h) ?_
  intro v w h
  refine L_u (P_fa fo151_3 h) ?_
  intro v w h
  refine L_u (P_ld sc4 h) ?_
  intro v w h
  refine L_nil ?_
  refine E_n ?_
  refine C_cnd h (fun h => ?_) (fun h => ?_)
  · refine wp_seq ?_
    refine L_region ?_
    refine L_as ?_
    refine L_nil ?_
    refine E_n ?_
    refine C_ret ?_
    show bodyPost Tryz.prog Tryz.f101 (Rt Q) .ret _ _
    exact post_tmps (ts := [4]) (.inr rfl) rfl h
  · refine C_skip ?_
    refine E_n ?_
    refine wp_seq ?_
    refine wp_seq ?_
    refine L_region ?_
    refine L_mv ?_
    refine L_u (P_lt h) ?_
    intro v w h
    refine L_mv ?_
    refine L_g (t := 11) h rfl rfl (fun c h => P_mv h c) ?_
    intro v w h
    refine L_g (t := 11) h rfl rfl (fun c h => P_mv h c) ?_
    intro v w h
    refine L_g (t := 11) h rfl rfl (fun c h => P_nc h c) ?_
    intro v w h
    refine L_g (t := 11) h rfl rfl (fun c h => P_fa fo151_2 h c) ?_
    intro v w h
    refine L_g (t := 11) h rfl rfl (fun c h => P_ld sc149 h c) ?_
    intro v w h
    refine L_g (t := 11) h rfl rfl (fun c h => P_lnl is149 h c) ?_
    intro v w h
    refine L_g (t := 11) h rfl rfl (fun c h => P_ge h c) ?_
    intro v w h
    refine L_u (P_pk h) ?_
    intro v w h
    refine L_nil ?_
    refine E_n ?_
    refine C_cnd h (fun h => ?_) (fun h => ?_)
    · refine wp_seq ?_
      refine L_region ?_
      refine L_as ?_
      refine L_nil ?_
      refine E_n ?_
      refine C_ret ?_
      show bodyPost Tryz.prog Tryz.f101 (Rt Q) .ret _ _
      exact post_tmps (ts := [4]) (.inr rfl) rfl h
    · refine C_skip ?_
      refine E_n ?_
      refine wp_seq ?_
      refine L_region ?_
      refine L_mv ?_
      refine L_mv ?_
      refine L_u (P_nc h) ?_
      intro v w h
      refine L_u (P_fa fo151_2 h) ?_
      intro v w h
      refine L_u (P_ld sc149 h) ?_
      intro v w h
      refine L_mv ?_
      refine L_u (P_ia se149 h) ?_
      intro v w h
      refine L_u (P_ld sc100 h) ?_
      intro v w h
      refine L_u (N_bi rfl h) ?_
      intro v w h
      refine L_u (P_nc h) ?_
      intro v w h
      refine L_u (P_fa fo151_1 h) ?_
      intro v w h
      refine L_u (P_st on100 h) ?_
      intro w h
      refine L_nil ?_
      refine E_n ?_
      refine wp_seq ?_
      refine L_region ?_
      refine L_mv ?_
      refine L_mv ?_
      refine L_u (P_nc h) ?_
      intro v w h
      refine L_u (P_fa fo151_2 h) ?_
      intro v w h
      refine L_u (P_ld sc149 h) ?_
      intro v w h
      refine L_mv ?_
      refine L_u (P_ad h) ?_
      intro v w h
      refine L_u (P_sll se149 h) ?_
      intro v w h
      refine L_u (P_nc h) ?_
      intro v w h
      refine L_u (P_fa fo151_2 h) ?_
      intro v w h
      refine L_u (P_st on149 h) ?_
      intro w h
      refine L_nil ?_
      refine E_n ?_
      refine wp_seq ?_
      refine L_region ?_
      refine L_as ?_
      refine L_nil ?_
      refine E_n ?_
      refine C_ret ?_
      show bodyPost Tryz.prog Tryz.f101 (Rt Q) .ret _ _
      exact post_tmps (ts := [4]) (.inr rfl) rfl h

/- (*factotum/factotumref08.Work).Changed -/
def f63_j3 (self2 : Value → Value → Value → M) (t0_2 t3_1 t4_1 : Value) : M :=
  ad .i64 t4_1 (.int .i64 1) fun t20 =>
  self2 t0_2 t3_1 t20
def f63_b2 (j1 : Value → M) (self2 : Value → Value → Value → M) (t0_1 t3 t4 : Value) : M :=
  nc t0_1 fun t7 =>
  fa 1 t7 fun t8 =>
  ld t8 fun t9 =>
  lnl t9 fun t10 =>
  lt .i64 t4 t10 fun t11 =>
  gd t11 true (idv t0_1) fun t13 =>
  gd t11 true (nc t13) fun t14 =>
  gd t11 true (fa 3 t14) fun t15 =>
  gd t11 true (ld t15) fun t16 =>
  gd t11 true (nt t16) fun t17 =>
  pk t11 t17 (.bool false) fun t18 =>
  cnd t18 (
    dr <|
    idv t0_1 fun t21 =>
    idv t4 fun t22 =>
    cl (f103 t21 t22) fun t23 =>
    idv t23 fun t24 =>
    gd t24 true (idv t0_1) fun t25 =>
    gd t24 true (nc t25) fun t26 =>
    gd t24 true (fa 1 t26) fun t27 =>
    gd t24 true (ld t27) fun t28 =>
    gd t24 true (idv t4) fun t29 =>
    gd t24 true (ia 1 t28 t29) fun t30 =>
    gd t24 true (ld t30) fun t31 =>
    gd t24 true (idv t0_1) fun t32 =>
    gd t24 true (nc t32) fun t33 =>
    gd t24 true (fa 0 t33) fun t34 =>
    gd t24 true (ld t34) fun t35 =>
    gd t24 true (idv t4) fun t36 =>
    gd t24 true (ia 1 t35 t36) fun t37 =>
    gd t24 true (ld t37) fun t38 =>
    gd t24 true (nes t31 t38) fun t39 =>
    pk t24 t39 (.bool false) fun t40 =>
    jn (fun (j3 : Value → Value → Value → M) =>
      cnd t40 (
        sm Tryz.prog (Instr.buildSlice 22 1 #[(0, t4)]) fun t43 =>
        sm Tryz.prog (Builtin.append_ #[22, 22] 22 #[t3, t43]) fun t44 =>
        j3 t0_1 t44 t4
        ) (
        j3 t0_1 t3 t4
        )
      ) (f63_j3 self2)
    ) (
    j1 t3
    )
def f63_j1 (t3_2 : Value) : M :=
  rt t3_2
def f63 (t0 : Value) : M :=
  jn (fun (j1 : Value → M) =>
    lo (fun _ _ _ => bot) (f63_b2 j1) (fun l => l t0 (.slice none 0 0) (.int .i64 0))
    ) (f63_j1)
theorem s63 (t0 : Value) (w : World) (Q : Value → World → Prop) (h : f63 t0 w Q) : Calls Tryz.prog 63 #[t0] w (Rt Q) := by
  refine calls_of (l := [t0]) Tryz.func63 rfl Tryz.ntmps63 (Nat.le_of_ble_eq_true rfl) ?_
  unfold f63 at h
  refine wp_seq ?_
  refine L_region ?_
  refine L_as ?_
  refine L_nil ?_
  refine E_n ?_
  refine wp_seq ?_
  refine L_region ?_
  refine L_as ?_
  refine L_nil ?_
  refine E_n ?_
  refine wp_seq ?_
  refine wp_seq ?_
  refine L_region ?_
  refine L_as ?_
  refine L_nil ?_
  refine E_n ?_
  refine C_join (fun (k : Value → M) (ρ : Nat → Value) => k (ρ 3)) h (fun j1 J1 h => ?_) (fun ρ w h => ?_)
  · refine C_blk ?_
    refine C_lo (fun (l : Value → Value → Value → M) (ρ : Nat → Value) => l (ρ 0) (ρ 3) (ρ 4)) h (fun ρ w h => h) (fun nx self2 L2 ρ w h => ?_)
    unfold f63_b2 at h
    refine wp_seq ?_
    refine wp_seq ?_
    refine L_region ?_
    refine L_mv ?_
    refine L_mv ?_
    refine L_u (P_nc h) ?_
    intro v w h
    refine L_u (P_fa fo151_1 h) ?_
    intro v w h
    refine L_u (P_ld sc100 h) ?_
    intro v w h
    refine L_u (P_lnl is100 h) ?_
    intro v w h
    refine L_u (P_lt h) ?_
    intro v w h
    refine L_mv ?_
    refine L_g (t := 12) h rfl rfl (fun c h => P_mv h c) ?_
    intro v w h
    refine L_g (t := 12) h rfl rfl (fun c h => P_nc h c) ?_
    intro v w h
    refine L_g (t := 12) h rfl rfl (fun c h => P_fa fo151_3 h c) ?_
    intro v w h
    refine L_g (t := 12) h rfl rfl (fun c h => P_ld sc4 h c) ?_
    intro v w h
    refine L_g (t := 12) h rfl rfl (fun c h => P_nt h c) ?_
    intro v w h
    refine L_u (P_pk h) ?_
    intro v w h
    refine L_nil ?_
    refine E_n ?_
    refine C_cnd h (fun h => ?_) (fun h => ?_)
    · refine C_skip ?_
      refine E_n ?_
      refine wp_seq ?_
      refine C_blk ?_
      refine wp_seq ?_
      refine D_region (by decide +kernel) 20 rfl ?_
      replace h := dr_e h
      refine G_p 0 rfl (by decide +kernel) (Y_mv h) ?_
      intro v h
      refine G_p 1 rfl (by decide +kernel) (Y_mv h) ?_
      intro v h
      refine G_e 2 rfl (by decide +kernel) (N_cl Tryz.func103 rfl nn103 (fun w Q h => s103 _ _ w Q h) h ?_)
      intro v w h
      refine ⟨keepF_nil, ?_⟩
      refine G_p 3 rfl (by decide +kernel) (Y_mv h) ?_
      intro v h
      refine G_pg (t := 24) 4 rfl (by decide +kernel) h rfl rfl (fun h => Y_mv h) ?_
      intro v h
      refine G_pg (t := 24) 5 rfl (by decide +kernel) h rfl rfl (fun h => Y_nc h) ?_
      intro v h
      refine G_pg (t := 24) 6 rfl (by decide +kernel) h rfl rfl (fun h => Y_fa fo151_1 h) ?_
      intro v h
      refine G_rg (t := 24) _ 7 rfl (by decide +kernel) h rfl rfl (fun h => R_ld sc100 h) ?_
      intro v h
      refine G_pg (t := 24) 8 rfl (by decide +kernel) h rfl rfl (fun h => Y_mv h) ?_
      intro v h
      refine G_pg (t := 24) 9 rfl (by decide +kernel) h rfl rfl (fun h => Y_ia se100 h) ?_
      intro v h
      refine G_rg (t := 24) _ 10 rfl (by decide +kernel) h rfl rfl (fun h => R_ld sc9 h) ?_
      intro v h
      refine G_pg (t := 24) 11 rfl (by decide +kernel) h rfl rfl (fun h => Y_mv h) ?_
      intro v h
      refine G_pg (t := 24) 12 rfl (by decide +kernel) h rfl rfl (fun h => Y_nc h) ?_
      intro v h
      refine G_pg (t := 24) 13 rfl (by decide +kernel) h rfl rfl (fun h => Y_fa fo151_0 h) ?_
      intro v h
      refine G_rg (t := 24) _ 14 rfl (by decide +kernel) h rfl rfl (fun h => R_ld sc100 h) ?_
      intro v h
      refine G_pg (t := 24) 15 rfl (by decide +kernel) h rfl rfl (fun h => Y_mv h) ?_
      intro v h
      refine G_pg (t := 24) 16 rfl (by decide +kernel) h rfl rfl (fun h => Y_ia se100 h) ?_
      intro v h
      refine G_rg (t := 24) _ 17 rfl (by decide +kernel) h rfl rfl (fun h => R_ld sc9 h) ?_
      intro v h
      refine G_pg (t := 24) 18 rfl (by decide +kernel) h rfl rfl (fun h => Y_nes h) ?_
      intro v h
      refine G_p 19 rfl (by decide +kernel) (Y_pk h) ?_
      intro v h
      refine G_done (by decide +kernel) ?_
      refine E_n ?_
      refine C_join (fun (k : Value → Value → Value → M) (ρ : Nat → Value) => k (ρ 0) (ρ 3) (ρ 4)) h (fun j3 J3 h => ?_) (fun ρ w h => ?_)
      · refine C_cnd h (fun h => ?_) (fun h => ?_)
        · refine L_region ?_
          refine L_mv ?_
          refine L_mv ?_
          refine L_u (N_bsl h) ?_
          intro v w h
          refine L_u (N_bi rfl h) ?_
          intro v w h
          refine L_as ?_
          refine L_nil ?_
          exact J3 _ _ h
        · refine C_skip ?_
          exact J3 _ _ h
      · unfold f63_j3 at h
        refine B_n ?_
        refine E_n ?_
        refine L_region ?_
        refine L_mv ?_
        refine L_u (P_ad h) ?_
        intro v w h
        refine L_as ?_
        refine L_nil ?_
        refine E_n ?_
        exact L2 _ _ h
    · refine C_exit ?_
      refine E_x ?_
      refine E_x ?_
      refine B_x ?_
      exact J1 _ _ h
  · unfold f63_j1 at h
    refine E_n ?_
    refine wp_seq ?_
    refine L_region ?_
    refine L_mv ?_
    refine L_as ?_
    refine L_nil ?_
    refine E_n ?_
    refine C_ret ?_
    show bodyPost Tryz.prog Tryz.f63 (Rt Q) .ret _ _
    exact post_tmps (ts := [2]) (.inr rfl) rfl h

/- (*factotum/factotumref08.Work).Commit -/
def f102_b2 (j1 : Value → Value → M) (self2 : Value → Value → Value → Value → M) (t0_1 t6 t7 t8 : Value) : M :=
  lnl t6 fun t29 =>
  lt .i64 t8 t29 fun t30 =>
  cnd t30 (
    dr <|
    idv t7 fun t33 =>
    nc t33 fun t34 =>
    fa 0 t34 fun t35 =>
    ld t35 fun t36 =>
    idv t6 fun t37 =>
    idv t8 fun t38 =>
    ia 1 t37 t38 fun t39 =>
    ld t39 fun t40 =>
    idv t0_1 fun t41 =>
    nc t41 fun t42 =>
    fa 1 t42 fun t43 =>
    ld t43 fun t44 =>
    idv t6 fun t45 =>
    idv t8 fun t46 =>
    ia 1 t45 t46 fun t47 =>
    ld t47 fun t48 =>
    ia 1 t44 t48 fun t49 =>
    ld t49 fun t50 =>
    ia 1 t36 t40 fun t51 =>
    st t51 t50 <|
    ad .i64 t8 (.int .i64 1) fun t32 =>
    self2 t0_1 t6 t7 t32
    ) (
    j1 t0_1 t7
    )
def f102_j1 (t0_2 t7_1 : Value) : M :=
  nc t0_2 fun t53 =>
  fa 3 t53 fun t54 =>
  st t54 (.bool true) <|
  rt (.tuple #[t7_1, (.int .i64 0)])
def f102 (t0 t1 : Value) : M :=
  nc t0 fun t10 =>
  fa 3 t10 fun t11 =>
  ld t11 fun t12 =>
  cnd t12 (
    rt (.tuple #[t1, (.int .i64 13)])
    ) (
    cl (f63 t0) fun t15 =>
    lnl t15 fun t17 =>
    gt .i64 t17 (.int .i64 31) fun t18 =>
    cnd t18 (
      rt (.tuple #[t1, (.int .i64 3)])
      ) (
      nc t1 fun t21 =>
      fa 0 t21 fun t22 =>
      ld t22 fun t23 =>
      sm Tryz.prog (Builtin.append_ #[100, 100] 100 #[(.slice none 0 0), t23]) fun t24 =>
      smr Tryz.prog (Instr.build 102 #[(0, t24)]) fun t25 =>
      bx 102 t25 fun t26 =>
      jn (fun (j1 : Value → Value → M) =>
        lo (fun _ _ _ _ => bot) (f102_b2 j1) (fun l => l t0 t15 t26 (.int .i64 0))
        ) (f102_j1)
      )
    )
theorem s102 (t0 t1 : Value) (w : World) (Q : Value → World → Prop) (h : f102 t0 t1 w Q) : Calls Tryz.prog 102 #[t0, t1] w (Rt Q) := by
  refine calls_of (l := [t0, t1]) Tryz.func102 rfl Tryz.ntmps102 (Nat.le_of_ble_eq_true rfl) ?_
  unfold f102 at h
  refine wp_seq ?_
  refine L_region ?_
  refine L_as ?_
  refine L_as ?_
  refine L_nil ?_
  refine E_n ?_
  refine wp_seq ?_
  refine wp_seq ?_
  refine L_region ?_
  refine L_mv ?_
  refine L_u (P_nc h) ?_
  intro v w h
  refine L_u (P_fa fo151_3 h) ?_
  intro v w h
  refine L_u (P_ld sc4 h) ?_
  intro v w h
  refine L_nil ?_
  refine E_n ?_
  refine C_cnd h (fun h => ?_) (fun h => ?_)
  · refine wp_seq ?_
    refine L_region ?_
    refine L_mv ?_
    refine L_as ?_
    refine L_as ?_
    refine L_nil ?_
    refine E_n ?_
    refine C_ret ?_
    show bodyPost Tryz.prog Tryz.f102 (Rt Q) .ret _ _
    exact post_tmps (ts := [4, 5]) (.inr rfl) rfl h
  · refine C_skip ?_
    refine E_n ?_
    refine wp_seq ?_
    refine L_region ?_
    refine L_mv ?_
    refine L_u (N_cl Tryz.func63 rfl nn63 (fun w Q h => s63 _ w Q h) h) ?_
    intro v w h
    refine L_as ?_
    refine L_nil ?_
    refine E_n ?_
    refine wp_seq ?_
    refine wp_seq ?_
    refine L_region ?_
    refine L_mv ?_
    refine L_u (P_lnl is22 h) ?_
    intro v w h
    refine L_u (P_gt h) ?_
    intro v w h
    refine L_nil ?_
    refine E_n ?_
    refine C_cnd h (fun h => ?_) (fun h => ?_)
    · refine wp_seq ?_
      refine L_region ?_
      refine L_mv ?_
      refine L_as ?_
      refine L_as ?_
      refine L_nil ?_
      refine E_n ?_
      refine C_ret ?_
      show bodyPost Tryz.prog Tryz.f102 (Rt Q) .ret _ _
      exact post_tmps (ts := [4, 5]) (.inr rfl) rfl h
    · refine C_skip ?_
      refine E_n ?_
      refine wp_seq ?_
      refine L_region ?_
      refine L_mv ?_
      refine L_u (P_nc h) ?_
      intro v w h
      refine L_u (P_fa fo102_0 h) ?_
      intro v w h
      refine L_u (P_ld sc100 h) ?_
      intro v w h
      refine L_u (N_bi rfl h) ?_
      intro v w h
      refine L_u (N_bld h) ?_
      intro v w h
      refine L_u (P_bx h) ?_
      intro v w h
      refine L_as ?_
      refine L_nil ?_
      refine E_n ?_
      refine wp_seq ?_
      refine wp_seq ?_
      refine L_region ?_
      refine L_as ?_
      refine L_nil ?_
      refine E_n ?_
      refine C_join (fun (k : Value → Value → M) (ρ : Nat → Value) => k (ρ 0) (ρ 7)) h (fun j1 J1 h => ?_) (fun ρ w h => ?_)
      · refine C_blk ?_
        refine C_lo (fun (l : Value → Value → Value → Value → M) (ρ : Nat → Value) => l (ρ 0) (ρ 6) (ρ 7) (ρ 8)) h (fun ρ w h => h) (fun nx self2 L2 ρ w h => ?_)
        unfold f102_b2 at h
        refine wp_seq ?_
        refine wp_seq ?_
        refine L_region ?_
        refine L_mv ?_
        refine L_mv ?_
        refine L_u (P_lnl is22 h) ?_
        intro v w h
        refine L_u (P_lt h) ?_
        intro v w h
        refine L_nil ?_
        refine E_n ?_
        refine C_cnd h (fun h => ?_) (fun h => ?_)
        · refine C_skip ?_
          refine E_n ?_
          refine wp_seq ?_
          refine C_blk ?_
          refine D_region (by decide +kernel) 20 rfl ?_
          replace h := dr_e h
          refine G_p 0 rfl (by decide +kernel) (Y_mv h) ?_
          intro v h
          refine G_p 1 rfl (by decide +kernel) (Y_nc h) ?_
          intro v h
          refine G_p 2 rfl (by decide +kernel) (Y_fa fo102_0 h) ?_
          intro v h
          refine G_r _ 3 rfl (by decide +kernel) (R_ld sc100 h) ?_
          intro v h
          refine G_p 4 rfl (by decide +kernel) (Y_mv h) ?_
          intro v h
          refine G_p 5 rfl (by decide +kernel) (Y_mv h) ?_
          intro v h
          refine G_p 6 rfl (by decide +kernel) (Y_ia se22 h) ?_
          intro v h
          refine G_r _ 7 rfl (by decide +kernel) (R_ld sc3 h) ?_
          intro v h
          refine G_p 8 rfl (by decide +kernel) (Y_mv h) ?_
          intro v h
          refine G_p 9 rfl (by decide +kernel) (Y_nc h) ?_
          intro v h
          refine G_p 10 rfl (by decide +kernel) (Y_fa fo151_1 h) ?_
          intro v h
          refine G_r _ 11 rfl (by decide +kernel) (R_ld sc100 h) ?_
          intro v h
          refine G_p 12 rfl (by decide +kernel) (Y_mv h) ?_
          intro v h
          refine G_p 13 rfl (by decide +kernel) (Y_mv h) ?_
          intro v h
          refine G_p 14 rfl (by decide +kernel) (Y_ia se22 h) ?_
          intro v h
          refine G_r _ 15 rfl (by decide +kernel) (R_ld sc3 h) ?_
          intro v h
          refine G_p 16 rfl (by decide +kernel) (Y_ia se100 h) ?_
          intro v h
          refine G_r _ 17 rfl (by decide +kernel) (R_ld sc9 h) ?_
          intro v h
          refine G_p 18 rfl (by decide +kernel) (Y_ia se100 h) ?_
          intro v h
          refine G_e 19 rfl (by decide +kernel) (P_st on9 h ?_)
          intro w h
          refine ⟨keepF_dep [17] (by decide +kernel) rfl (keepF_dep [15] (by decide +kernel) rfl (keepF_dep [11] (by decide +kernel) rfl (keepF_dep [7] (by decide +kernel) rfl (keepF_dep [3] (by decide +kernel) rfl keepF_nil)))), ?_⟩
          refine G_done (by decide +kernel) ?_
          refine B_n ?_
          refine E_n ?_
          refine L_region ?_
          refine L_mv ?_
          refine L_u (P_ad h) ?_
          intro v w h
          refine L_as ?_
          refine L_nil ?_
          refine E_n ?_
          exact L2 _ _ h
        · refine C_exit ?_
          refine E_x ?_
          refine E_x ?_
          refine B_x ?_
          exact J1 _ _ h
      · unfold f102_j1 at h
        refine E_n ?_
        refine wp_seq ?_
        refine L_region ?_
        refine L_mv ?_
        refine L_u (P_nc h) ?_
        intro v w h
        refine L_u (P_fa fo151_3 h) ?_
        intro v w h
        refine L_u (P_st on4 h) ?_
        intro w h
        refine L_nil ?_
        refine E_n ?_
        refine wp_seq ?_
        refine L_region ?_
        refine L_mv ?_
        refine L_as ?_
        refine L_as ?_
        refine L_nil ?_
        refine E_n ?_
        refine C_ret ?_
        show bodyPost Tryz.prog Tryz.f102 (Rt Q) .ret _ _
        exact post_tmps (ts := [4, 5]) (.inr rfl) rfl h

/- (*factotum/factotumlaw08.Both).step -/
def f57_j1 (t0_1 t3_1 t9 : Value) : M :=
  dr <|
  idv t0_1 fun t61 =>
  nc t61 fun t62 =>
  fa 1 t62 fun t63 =>
  ld t63 fun t64 =>
  fa 1 t3_1 fun t65 =>
  ld t65 fun t66 =>
  idv t9 fun t67 =>
  idv t0_1 fun t69 =>
  nc t69 fun t70 =>
  fa 3 t70 fun t71 =>
  ld t71 fun t72 =>
  fa 1 t3_1 fun t73 =>
  ld t73 fun t74 =>
  idv t9 fun t75 =>
  cl (f67 t64 t66 t67) fun t68 =>
  kp (Kld t73 t74) <|
  kp (Kld t71 t72) <|
  cl (f96 t72 t74 t75) fun t76 =>
  eqi .i64 t68 t76 fun t77 =>
  idv t77 fun t4 =>
  rt t4
def f57 (t0 t1 : Value) : M :=
  bx 92 t1 fun t3 =>
  ldn 3 t3 fun t18 =>
  cl (f56 t18) fun t19 =>
  eqi .i64 t19 (.int .i64 0) fun t21 =>
  cnd t21 (
    dr <|
    idv t0 fun t23 =>
    nc t23 fun t24 =>
    fa 1 t24 fun t25 =>
    ld t25 fun t26 =>
    fa 1 t3 fun t27 =>
    ld t27 fun t28 =>
    cl (f65 t26 t28) fun t29 =>
    idv t29 fun t22 =>
    ex 0 t22 fun t30 =>
    ex 1 t22 fun t31 =>
    idv t30 fun t5 =>
    idv t31 fun t6 =>
    dr <|
    idv t0 fun t33 =>
    nc t33 fun t34 =>
    fa 3 t34 fun t35 =>
    ld t35 fun t36 =>
    fa 1 t3 fun t37 =>
    ld t37 fun t38 =>
    cl (f94 t36 t38) fun t39 =>
    idv t39 fun t32 =>
    ex 0 t32 fun t40 =>
    ex 1 t32 fun t41 =>
    idv t40 fun t7 =>
    idv t41 fun t8 =>
    eqs t5 t7 fun t44 =>
    gd t44 true (idv t6) fun t46 =>
    gd t44 true (idv t8) fun t47 =>
    gd t44 true (eqi .i64 t46 t47) fun t48 =>
    pk t44 t48 (.bool false) fun t49 =>
    rt t49
    ) (
    eqi .i64 t19 (.int .i64 1) fun t51 =>
    cnd t51 (
      fa 2 t3 fun t52 =>
      ld t52 fun t53 =>
      cl (f95 t53 (.int .i64 256)) fun t54 =>
      fa 2 t3 fun t55 =>
      ld t55 fun t56 =>
      eqi .u8 t56 (.int .u8 1) fun t57 =>
      jn (fun (j1 : Value → Value → Value → M) =>
        cnd t57 (
          fa 2 t3 fun t58 =>
          ld t58 fun t59 =>
          cl (f95 t59 (.int .i64 9)) fun t60 =>
          j1 t0 t3 t60
          ) (
          j1 t0 t3 t54
          )
        ) (f57_j1)
      ) (
      eqi .i64 t19 (.int .i64 2) fun t79 =>
      cnd t79 (
        nc t0 fun t82 =>
        fa 1 t82 fun t83 =>
        ld t83 fun t84 =>
        cl (f18 t84) fun t85 =>
        ex 0 t85 fun t86 =>
        ex 1 t85 fun t87 =>
        nc t0 fun t90 =>
        fa 3 t90 fun t91 =>
        ld t91 fun t92 =>
        cl (f97 t92) fun t93 =>
        ex 0 t93 fun t94 =>
        ex 1 t93 fun t95 =>
        eqi .i64 t86 t94 fun t98 =>
        gd t98 true (idv t87) fun t100 =>
        gd t98 true (idv t95) fun t101 =>
        gd t98 true (eqi .i64 t100 t101) fun t102 =>
        pk t98 t102 (.bool false) fun t103 =>
        rt t103
        ) (
        eqi .i64 t19 (.int .i64 3) fun t105 =>
        cnd t105 (
          dr <|
          idv t0 fun t106 =>
          nc t106 fun t107 =>
          fa 1 t107 fun t108 =>
          ld t108 fun t109 =>
          fa 1 t3 fun t110 =>
          ld t110 fun t111 =>
          idv t0 fun t113 =>
          nc t113 fun t114 =>
          fa 3 t114 fun t115 =>
          ld t115 fun t116 =>
          fa 1 t3 fun t117 =>
          ld t117 fun t118 =>
          cl (f20 t109 t111) fun t112 =>
          kp (Kld t117 t118) <|
          kp (Kld t115 t116) <|
          cl (f98 t116 t118) fun t119 =>
          eqi .i64 t112 t119 fun t120 =>
          idv t120 fun t4_1 =>
          rt t4_1
          ) (
          eqi .i64 t19 (.int .i64 4) fun t122 =>
          cnd t122 (
            fa 2 t3 fun t123 =>
            ld t123 fun t124 =>
            fa 1 t3 fun t125 =>
            ld t125 fun t126 =>
            mxm t126 (.int .i64 0) fun t127 =>
            mnm t127 (.int .i64 300) fun t128 =>
            cl (f95 t124 t128) fun t129 =>
            dr <|
            idv t0 fun t130 =>
            nc t130 fun t131 =>
            fa 1 t131 fun t132 =>
            ld t132 fun t133 =>
            idv t129 fun t134 =>
            idv t0 fun t136 =>
            nc t136 fun t137 =>
            fa 3 t137 fun t138 =>
            ld t138 fun t139 =>
            idv t129 fun t140 =>
            cl (f68 t133 t134) fun t135 =>
            kp (Kld t138 t139) <|
            cl (f99 t139 t140) fun t141 =>
            eqi .i64 t135 t141 fun t142 =>
            idv t142 fun t4_2 =>
            rt t4_2
            ) (
            eqi .i64 t19 (.int .i64 5) fun t144 =>
            cnd t144 (
              dr <|
              idv t0 fun t145 =>
              nc t145 fun t146 =>
              fa 1 t146 fun t147 =>
              ld t147 fun t148 =>
              idv t0 fun t150 =>
              nc t150 fun t151 =>
              fa 3 t151 fun t152 =>
              ld t152 fun t153 =>
              cl (f64 t148) fun t149 =>
              kp (Kld t152 t153) <|
              cl (f100 t153) fun t154 =>
              eqi .i64 t149 t154 fun t155 =>
              idv t155 fun t4_3 =>
              rt t4_3
              ) (
              eqi .i64 t19 (.int .i64 6) fun t157 =>
              cnd t157 (
                dr <|
                idv t0 fun t158 =>
                nc t158 fun t159 =>
                fa 1 t159 fun t160 =>
                ld t160 fun t161 =>
                fa 1 t3 fun t162 =>
                ld t162 fun t163 =>
                idv t0 fun t165 =>
                nc t165 fun t166 =>
                fa 3 t166 fun t167 =>
                ld t167 fun t168 =>
                fa 1 t3 fun t169 =>
                ld t169 fun t170 =>
                cl (f66 t161 t163) fun t164 =>
                kp (Kld t169 t170) <|
                kp (Kld t167 t168) <|
                cl (f101 t168 t170) fun t171 =>
                eqi .i64 t164 t171 fun t172 =>
                idv t172 fun t4_4 =>
                rt t4_4
                ) (
                nc t0 fun t174 =>
                fa 1 t174 fun t175 =>
                ld t175 fun t176 =>
                cl (f69 t176) fun t177 =>
                dr <|
                idv t0 fun t179 =>
                nc t179 fun t180 =>
                fa 3 t180 fun t181 =>
                ld t181 fun t182 =>
                idv t0 fun t183 =>
                nc t183 fun t184 =>
                fa 2 t184 fun t185 =>
                ld t185 fun t186 =>
                cl (f102 t182 t186) fun t187 =>
                idv t187 fun t178 =>
                ex 0 t178 fun t188 =>
                ex 1 t178 fun t189 =>
                idv t188 fun t16 =>
                idv t189 fun t17 =>
                nc t0 fun t192 =>
                fa 2 t192 fun t193 =>
                st t193 t16 <|
                eqi .i64 t177 t17 fun t196 =>
                rt t196
                )
              )
            )
          )
        )
      )
    )
theorem s57 (t0 t1 : Value) (w : World) (Q : Value → World → Prop) (h : f57 t0 t1 w Q) : Calls Tryz.prog 57 #[t0, t1] w (Rt Q) := by
  refine calls_of (l := [t0, t1]) Tryz.func57 rfl Tryz.ntmps57 (Nat.le_of_ble_eq_true rfl) ?_
  unfold f57 at h
  refine wp_seq ?_
  refine L_region ?_
  refine L_u (P_bx h) ?_
  intro v w h
  refine L_as ?_
  refine L_nil ?_
  refine E_n ?_
  refine wp_seq ?_
  refine wp_seq ?_
  refine L_region ?_
  refine L_u (P_ldn ag92 h) ?_
  intro v w h
  refine L_u (N_cl Tryz.func56 rfl nn56 (fun w Q h => s56 _ w Q h) h) ?_
  intro v w h
  refine L_nil ?_
  refine E_n ?_
  refine C_blk ?_
  refine wp_seq ?_
  refine L_region ?_
  refine L_u (P_eqi h) ?_
  intro v w h
  refine L_as ?_
  refine L_nil ?_
  refine E_n ?_
  refine C_cnd h (fun h => ?_) (fun h => ?_)
  · refine wp_seq ?_
    refine D_region (by decide +kernel) 12 rfl ?_
    replace h := dr_e h
    refine G_p 0 rfl (by decide +kernel) (Y_mv h) ?_
    intro v h
    refine G_p 1 rfl (by decide +kernel) (Y_nc h) ?_
    intro v h
    refine G_p 2 rfl (by decide +kernel) (Y_fa fo96_1 h) ?_
    intro v h
    refine G_r _ 3 rfl (by decide +kernel) (R_ld sc25 h) ?_
    intro v h
    refine G_p 4 rfl (by decide +kernel) (Y_fa fo92_1 h) ?_
    intro v h
    refine G_r _ 5 rfl (by decide +kernel) (R_ld sc3 h) ?_
    intro v h
    refine G_e 6 rfl (by decide +kernel) (N_cl Tryz.func65 rfl nn65 (fun w Q h => s65 _ _ w Q h) h ?_)
    intro v w h
    refine ⟨keepF_dep [5] (by decide +kernel) rfl (keepF_dep [3] (by decide +kernel) rfl keepF_nil), ?_⟩
    refine G_p 7 rfl (by decide +kernel) (Y_mv h) ?_
    intro v h
    refine G_p 8 rfl (by decide +kernel) (Y_ex h) ?_
    intro v h
    refine G_p 9 rfl (by decide +kernel) (Y_ex h) ?_
    intro v h
    refine G_p 10 rfl (by decide +kernel) (Y_as h) ?_
    intro v h
    refine G_p 11 rfl (by decide +kernel) (Y_as h) ?_
    intro v h
    refine G_done (by decide +kernel) ?_
    refine E_n ?_
    refine wp_seq ?_
    refine D_region (by decide +kernel) 12 rfl ?_
    replace h := dr_e h
    refine G_p 0 rfl (by decide +kernel) (Y_mv h) ?_
    intro v h
    refine G_p 1 rfl (by decide +kernel) (Y_nc h) ?_
    intro v h
    refine G_p 2 rfl (by decide +kernel) (Y_fa fo96_3 h) ?_
    intro v h
    refine G_r _ 3 rfl (by decide +kernel) (R_ld sc94 h) ?_
    intro v h
    refine G_p 4 rfl (by decide +kernel) (Y_fa fo92_1 h) ?_
    intro v h
    refine G_r _ 5 rfl (by decide +kernel) (R_ld sc3 h) ?_
    intro v h
    refine G_e 6 rfl (by decide +kernel) (N_cl Tryz.func94 rfl nn94 (fun w Q h => s94 _ _ w Q h) h ?_)
    intro v w h
    refine ⟨keepF_dep [5] (by decide +kernel) rfl (keepF_dep [3] (by decide +kernel) rfl keepF_nil), ?_⟩
    refine G_p 7 rfl (by decide +kernel) (Y_mv h) ?_
    intro v h
    refine G_p 8 rfl (by decide +kernel) (Y_ex h) ?_
    intro v h
    refine G_p 9 rfl (by decide +kernel) (Y_ex h) ?_
    intro v h
    refine G_p 10 rfl (by decide +kernel) (Y_as h) ?_
    intro v h
    refine G_p 11 rfl (by decide +kernel) (Y_as h) ?_
    intro v h
    refine G_done (by decide +kernel) ?_
    refine E_n ?_
    refine wp_seq ?_
    refine L_region ?_
    refine L_mv ?_
    refine L_mv ?_
    refine L_u (P_eqs h) ?_
    intro v w h
    refine L_mv ?_
    refine L_g (t := 45) h rfl rfl (fun c h => P_mv h c) ?_
    intro v w h
    refine L_g (t := 45) h rfl rfl (fun c h => P_mv h c) ?_
    intro v w h
    refine L_g (t := 45) h rfl rfl (fun c h => P_eqi h c) ?_
    intro v w h
    refine L_u (P_pk h) ?_
    intro v w h
    refine L_as ?_
    refine L_nil ?_
    refine E_n ?_
    refine C_ret ?_
    show bodyPost Tryz.prog Tryz.f57 (Rt Q) .ret _ _
    exact post_tmps (ts := [4]) (.inr rfl) rfl h
  · refine wp_seq ?_
    refine L_region ?_
    refine L_u (P_eqi h) ?_
    intro v w h
    refine L_as ?_
    refine L_nil ?_
    refine E_n ?_
    refine C_cnd h (fun h => ?_) (fun h => ?_)
    · refine wp_seq ?_
      refine L_region ?_
      refine L_u (P_fa fo92_2 h) ?_
      intro v w h
      refine L_u (P_ld sc5 h) ?_
      intro v w h
      refine L_u (N_cl Tryz.func95 rfl nn95 (fun w Q h => s95 _ _ w Q h) h) ?_
      intro v w h
      refine L_as ?_
      refine L_nil ?_
      refine E_n ?_
      refine wp_seq ?_
      refine wp_seq ?_
      refine L_region ?_
      refine L_u (P_fa fo92_2 h) ?_
      intro v w h
      refine L_u (P_ld sc5 h) ?_
      intro v w h
      refine L_u (P_eqi h) ?_
      intro v w h
      refine L_nil ?_
      refine E_n ?_
      refine C_join (fun (k : Value → Value → Value → M) (ρ : Nat → Value) => k (ρ 0) (ρ 3) (ρ 9)) h (fun j1 J1 h => ?_) (fun ρ w h => ?_)
      · refine C_cnd h (fun h => ?_) (fun h => ?_)
        · refine L_region ?_
          refine L_u (P_fa fo92_2 h) ?_
          intro v w h
          refine L_u (P_ld sc5 h) ?_
          intro v w h
          refine L_u (N_cl Tryz.func95 rfl nn95 (fun w Q h => s95 _ _ w Q h) h) ?_
          intro v w h
          refine L_as ?_
          refine L_nil ?_
          exact J1 _ _ h
        · refine C_skip ?_
          exact J1 _ _ h
      · unfold f57_j1 at h
        refine E_n ?_
        refine wp_seq ?_
        refine D_region (by decide +kernel) 18 rfl ?_
        replace h := dr_e h
        refine G_p 0 rfl (by decide +kernel) (Y_mv h) ?_
        intro v h
        refine G_p 1 rfl (by decide +kernel) (Y_nc h) ?_
        intro v h
        refine G_p 2 rfl (by decide +kernel) (Y_fa fo96_1 h) ?_
        intro v h
        refine G_r _ 3 rfl (by decide +kernel) (R_ld sc25 h) ?_
        intro v h
        refine G_p 4 rfl (by decide +kernel) (Y_fa fo92_1 h) ?_
        intro v h
        refine G_r _ 5 rfl (by decide +kernel) (R_ld sc3 h) ?_
        intro v h
        refine G_p 6 rfl (by decide +kernel) (Y_mv h) ?_
        intro v h
        refine G_p 8 rfl (by decide +kernel) (Y_mv h) ?_
        intro v h
        refine G_p 9 rfl (by decide +kernel) (Y_nc h) ?_
        intro v h
        refine G_p 10 rfl (by decide +kernel) (Y_fa fo96_3 h) ?_
        intro v h
        refine G_r _ 11 rfl (by decide +kernel) (R_ld sc94 h) ?_
        intro v h
        refine G_p 12 rfl (by decide +kernel) (Y_fa fo92_1 h) ?_
        intro v h
        refine G_r _ 13 rfl (by decide +kernel) (R_ld sc3 h) ?_
        intro v h
        refine G_p 14 rfl (by decide +kernel) (Y_mv h) ?_
        intro v h
        refine G_e 7 rfl (by decide +kernel) (N_cl Tryz.func67 rfl nn67 (fun w Q h => s67 _ _ _ w Q h) h ?_)
        intro v w h
        refine ⟨keepF_cons (kp_1 h) (keepF_cons (kp_1 (kp_2 h)) (keepF_dep [5] (by decide +kernel) rfl (keepF_dep [3] (by decide +kernel) rfl keepF_nil))), ?_⟩
        replace h := (kp_2 (kp_2 h))
        refine G_e 15 rfl (by decide +kernel) (N_cl Tryz.func96 rfl nn96 (fun w Q h => s96 _ _ _ w Q h) h ?_)
        intro v w h
        refine ⟨keepF_dep [13] (by decide +kernel) rfl (keepF_dep [11] (by decide +kernel) rfl (keepF_dep [7, 5] (by decide +kernel) rfl (keepF_dep [7, 3] (by decide +kernel) rfl keepF_nil))), ?_⟩
        refine G_p 16 rfl (by decide +kernel) (Y_eqi h) ?_
        intro v h
        refine G_p 17 rfl (by decide +kernel) (Y_as h) ?_
        intro v h
        refine G_done (by decide +kernel) ?_
        refine E_n ?_
        refine C_ret ?_
        show bodyPost Tryz.prog Tryz.f57 (Rt Q) .ret _ _
        exact post_tmps (ts := [4]) (.inr rfl) rfl h
    · refine wp_seq ?_
      refine L_region ?_
      refine L_u (P_eqi h) ?_
      intro v w h
      refine L_as ?_
      refine L_nil ?_
      refine E_n ?_
      refine C_cnd h (fun h => ?_) (fun h => ?_)
      · refine wp_seq ?_
        refine L_region ?_
        refine L_mv ?_
        refine L_u (P_nc h) ?_
        intro v w h
        refine L_u (P_fa fo96_1 h) ?_
        intro v w h
        refine L_u (P_ld sc25 h) ?_
        intro v w h
        refine L_u (N_cl Tryz.func18 rfl nn18 (fun w Q h => s18 _ w Q h) h) ?_
        intro v w h
        refine L_mv ?_
        refine L_u (P_ex h) ?_
        intro v w h
        refine L_u (P_ex h) ?_
        intro v w h
        refine L_as ?_
        refine L_as ?_
        refine L_nil ?_
        refine E_n ?_
        refine wp_seq ?_
        refine L_region ?_
        refine L_mv ?_
        refine L_u (P_nc h) ?_
        intro v w h
        refine L_u (P_fa fo96_3 h) ?_
        intro v w h
        refine L_u (P_ld sc94 h) ?_
        intro v w h
        refine L_u (N_cl Tryz.func97 rfl nn97 (fun w Q h => s97 _ w Q h) h) ?_
        intro v w h
        refine L_mv ?_
        refine L_u (P_ex h) ?_
        intro v w h
        refine L_u (P_ex h) ?_
        intro v w h
        refine L_as ?_
        refine L_as ?_
        refine L_nil ?_
        refine E_n ?_
        refine wp_seq ?_
        refine L_region ?_
        refine L_mv ?_
        refine L_mv ?_
        refine L_u (P_eqi h) ?_
        intro v w h
        refine L_mv ?_
        refine L_g (t := 99) h rfl rfl (fun c h => P_mv h c) ?_
        intro v w h
        refine L_g (t := 99) h rfl rfl (fun c h => P_mv h c) ?_
        intro v w h
        refine L_g (t := 99) h rfl rfl (fun c h => P_eqi h c) ?_
        intro v w h
        refine L_u (P_pk h) ?_
        intro v w h
        refine L_as ?_
        refine L_nil ?_
        refine E_n ?_
        refine C_ret ?_
        show bodyPost Tryz.prog Tryz.f57 (Rt Q) .ret _ _
        exact post_tmps (ts := [4]) (.inr rfl) rfl h
      · refine wp_seq ?_
        refine L_region ?_
        refine L_u (P_eqi h) ?_
        intro v w h
        refine L_as ?_
        refine L_nil ?_
        refine E_n ?_
        refine C_cnd h (fun h => ?_) (fun h => ?_)
        · refine wp_seq ?_
          refine D_region (by decide +kernel) 16 rfl ?_
          replace h := dr_e h
          refine G_p 0 rfl (by decide +kernel) (Y_mv h) ?_
          intro v h
          refine G_p 1 rfl (by decide +kernel) (Y_nc h) ?_
          intro v h
          refine G_p 2 rfl (by decide +kernel) (Y_fa fo96_1 h) ?_
          intro v h
          refine G_r _ 3 rfl (by decide +kernel) (R_ld sc25 h) ?_
          intro v h
          refine G_p 4 rfl (by decide +kernel) (Y_fa fo92_1 h) ?_
          intro v h
          refine G_r _ 5 rfl (by decide +kernel) (R_ld sc3 h) ?_
          intro v h
          refine G_p 7 rfl (by decide +kernel) (Y_mv h) ?_
          intro v h
          refine G_p 8 rfl (by decide +kernel) (Y_nc h) ?_
          intro v h
          refine G_p 9 rfl (by decide +kernel) (Y_fa fo96_3 h) ?_
          intro v h
          refine G_r _ 10 rfl (by decide +kernel) (R_ld sc94 h) ?_
          intro v h
          refine G_p 11 rfl (by decide +kernel) (Y_fa fo92_1 h) ?_
          intro v h
          refine G_r _ 12 rfl (by decide +kernel) (R_ld sc3 h) ?_
          intro v h
          refine G_e 6 rfl (by decide +kernel) (N_cl Tryz.func20 rfl nn20 (fun w Q h => s20 _ _ w Q h) h ?_)
          intro v w h
          refine ⟨keepF_cons (kp_1 h) (keepF_cons (kp_1 (kp_2 h)) (keepF_dep [5] (by decide +kernel) rfl (keepF_dep [3] (by decide +kernel) rfl keepF_nil))), ?_⟩
          replace h := (kp_2 (kp_2 h))
          refine G_e 13 rfl (by decide +kernel) (N_cl Tryz.func98 rfl nn98 (fun w Q h => s98 _ _ w Q h) h ?_)
          intro v w h
          refine ⟨keepF_dep [12] (by decide +kernel) rfl (keepF_dep [10] (by decide +kernel) rfl (keepF_dep [6, 5] (by decide +kernel) rfl (keepF_dep [6, 3] (by decide +kernel) rfl keepF_nil))), ?_⟩
          refine G_p 14 rfl (by decide +kernel) (Y_eqi h) ?_
          intro v h
          refine G_p 15 rfl (by decide +kernel) (Y_as h) ?_
          intro v h
          refine G_done (by decide +kernel) ?_
          refine E_n ?_
          refine C_ret ?_
          show bodyPost Tryz.prog Tryz.f57 (Rt Q) .ret _ _
          exact post_tmps (ts := [4]) (.inr rfl) rfl h
        · refine wp_seq ?_
          refine L_region ?_
          refine L_u (P_eqi h) ?_
          intro v w h
          refine L_as ?_
          refine L_nil ?_
          refine E_n ?_
          refine C_cnd h (fun h => ?_) (fun h => ?_)
          · refine wp_seq ?_
            refine L_region ?_
            refine L_u (P_fa fo92_2 h) ?_
            intro v w h
            refine L_u (P_ld sc5 h) ?_
            intro v w h
            refine L_u (P_fa fo92_1 h) ?_
            intro v w h
            refine L_u (P_ld sc3 h) ?_
            intro v w h
            refine L_u (P_mxm (t := 0) h) ?_
            intro v w h
            refine L_u (P_mnm (t := 0) h) ?_
            intro v w h
            refine L_u (N_cl Tryz.func95 rfl nn95 (fun w Q h => s95 _ _ w Q h) h) ?_
            intro v w h
            refine L_as ?_
            refine L_nil ?_
            refine E_n ?_
            refine wp_seq ?_
            refine D_region (by decide +kernel) 14 rfl ?_
            replace h := dr_e h
            refine G_p 0 rfl (by decide +kernel) (Y_mv h) ?_
            intro v h
            refine G_p 1 rfl (by decide +kernel) (Y_nc h) ?_
            intro v h
            refine G_p 2 rfl (by decide +kernel) (Y_fa fo96_1 h) ?_
            intro v h
            refine G_r _ 3 rfl (by decide +kernel) (R_ld sc25 h) ?_
            intro v h
            refine G_p 4 rfl (by decide +kernel) (Y_mv h) ?_
            intro v h
            refine G_p 6 rfl (by decide +kernel) (Y_mv h) ?_
            intro v h
            refine G_p 7 rfl (by decide +kernel) (Y_nc h) ?_
            intro v h
            refine G_p 8 rfl (by decide +kernel) (Y_fa fo96_3 h) ?_
            intro v h
            refine G_r _ 9 rfl (by decide +kernel) (R_ld sc94 h) ?_
            intro v h
            refine G_p 10 rfl (by decide +kernel) (Y_mv h) ?_
            intro v h
            refine G_e 5 rfl (by decide +kernel) (N_cl Tryz.func68 rfl nn68 (fun w Q h => s68 _ _ w Q h) h ?_)
            intro v w h
            refine ⟨keepF_cons (kp_1 h) (keepF_dep [3] (by decide +kernel) rfl keepF_nil), ?_⟩
            replace h := (kp_2 h)
            refine G_e 11 rfl (by decide +kernel) (N_cl Tryz.func99 rfl nn99 (fun w Q h => s99 _ _ w Q h) h ?_)
            intro v w h
            refine ⟨keepF_dep [9] (by decide +kernel) rfl (keepF_dep [5, 3] (by decide +kernel) rfl keepF_nil), ?_⟩
            refine G_p 12 rfl (by decide +kernel) (Y_eqi h) ?_
            intro v h
            refine G_p 13 rfl (by decide +kernel) (Y_as h) ?_
            intro v h
            refine G_done (by decide +kernel) ?_
            refine E_n ?_
            refine C_ret ?_
            show bodyPost Tryz.prog Tryz.f57 (Rt Q) .ret _ _
            exact post_tmps (ts := [4]) (.inr rfl) rfl h
          · refine wp_seq ?_
            refine L_region ?_
            refine L_u (P_eqi h) ?_
            intro v w h
            refine L_as ?_
            refine L_nil ?_
            refine E_n ?_
            refine C_cnd h (fun h => ?_) (fun h => ?_)
            · refine wp_seq ?_
              refine D_region (by decide +kernel) 12 rfl ?_
              replace h := dr_e h
              refine G_p 0 rfl (by decide +kernel) (Y_mv h) ?_
              intro v h
              refine G_p 1 rfl (by decide +kernel) (Y_nc h) ?_
              intro v h
              refine G_p 2 rfl (by decide +kernel) (Y_fa fo96_1 h) ?_
              intro v h
              refine G_r _ 3 rfl (by decide +kernel) (R_ld sc25 h) ?_
              intro v h
              refine G_p 5 rfl (by decide +kernel) (Y_mv h) ?_
              intro v h
              refine G_p 6 rfl (by decide +kernel) (Y_nc h) ?_
              intro v h
              refine G_p 7 rfl (by decide +kernel) (Y_fa fo96_3 h) ?_
              intro v h
              refine G_r _ 8 rfl (by decide +kernel) (R_ld sc94 h) ?_
              intro v h
              refine G_e 4 rfl (by decide +kernel) (N_cl Tryz.func64 rfl nn64 (fun w Q h => s64 _ w Q h) h ?_)
              intro v w h
              refine ⟨keepF_cons (kp_1 h) (keepF_dep [3] (by decide +kernel) rfl keepF_nil), ?_⟩
              replace h := (kp_2 h)
              refine G_e 9 rfl (by decide +kernel) (N_cl Tryz.func100 rfl nn100 (fun w Q h => s100 _ w Q h) h ?_)
              intro v w h
              refine ⟨keepF_dep [8] (by decide +kernel) rfl (keepF_dep [4, 3] (by decide +kernel) rfl keepF_nil), ?_⟩
              refine G_p 10 rfl (by decide +kernel) (Y_eqi h) ?_
              intro v h
              refine G_p 11 rfl (by decide +kernel) (Y_as h) ?_
              intro v h
              refine G_done (by decide +kernel) ?_
              refine E_n ?_
              refine C_ret ?_
              show bodyPost Tryz.prog Tryz.f57 (Rt Q) .ret _ _
              exact post_tmps (ts := [4]) (.inr rfl) rfl h
            · refine wp_seq ?_
              refine L_region ?_
              refine L_u (P_eqi h) ?_
              intro v w h
              refine L_as ?_
              refine L_nil ?_
              refine E_n ?_
              refine C_cnd h (fun h => ?_) (fun h => ?_)
              · refine wp_seq ?_
                refine D_region (by decide +kernel) 16 rfl ?_
                replace h := dr_e h
                refine G_p 0 rfl (by decide +kernel) (Y_mv h) ?_
                intro v h
                refine G_p 1 rfl (by decide +kernel) (Y_nc h) ?_
                intro v h
                refine G_p 2 rfl (by decide +kernel) (Y_fa fo96_1 h) ?_
                intro v h
                refine G_r _ 3 rfl (by decide +kernel) (R_ld sc25 h) ?_
                intro v h
                refine G_p 4 rfl (by decide +kernel) (Y_fa fo92_1 h) ?_
                intro v h
                refine G_r _ 5 rfl (by decide +kernel) (R_ld sc3 h) ?_
                intro v h
                refine G_p 7 rfl (by decide +kernel) (Y_mv h) ?_
                intro v h
                refine G_p 8 rfl (by decide +kernel) (Y_nc h) ?_
                intro v h
                refine G_p 9 rfl (by decide +kernel) (Y_fa fo96_3 h) ?_
                intro v h
                refine G_r _ 10 rfl (by decide +kernel) (R_ld sc94 h) ?_
                intro v h
                refine G_p 11 rfl (by decide +kernel) (Y_fa fo92_1 h) ?_
                intro v h
                refine G_r _ 12 rfl (by decide +kernel) (R_ld sc3 h) ?_
                intro v h
                refine G_e 6 rfl (by decide +kernel) (N_cl Tryz.func66 rfl nn66 (fun w Q h => s66 _ _ w Q h) h ?_)
                intro v w h
                refine ⟨keepF_cons (kp_1 h) (keepF_cons (kp_1 (kp_2 h)) (keepF_dep [5] (by decide +kernel) rfl (keepF_dep [3] (by decide +kernel) rfl keepF_nil))), ?_⟩
                replace h := (kp_2 (kp_2 h))
                refine G_e 13 rfl (by decide +kernel) (N_cl Tryz.func101 rfl nn101 (fun w Q h => s101 _ _ w Q h) h ?_)
                intro v w h
                refine ⟨keepF_dep [12] (by decide +kernel) rfl (keepF_dep [10] (by decide +kernel) rfl (keepF_dep [6, 5] (by decide +kernel) rfl (keepF_dep [6, 3] (by decide +kernel) rfl keepF_nil))), ?_⟩
                refine G_p 14 rfl (by decide +kernel) (Y_eqi h) ?_
                intro v h
                refine G_p 15 rfl (by decide +kernel) (Y_as h) ?_
                intro v h
                refine G_done (by decide +kernel) ?_
                refine E_n ?_
                refine C_ret ?_
                show bodyPost Tryz.prog Tryz.f57 (Rt Q) .ret _ _
                exact post_tmps (ts := [4]) (.inr rfl) rfl h
              · refine C_skip ?_
                refine B_n ?_
                refine E_n ?_
                refine wp_seq ?_
                refine L_region ?_
                refine L_mv ?_
                refine L_u (P_nc h) ?_
                intro v w h
                refine L_u (P_fa fo96_1 h) ?_
                intro v w h
                refine L_u (P_ld sc25 h) ?_
                intro v w h
                refine L_u (N_cl Tryz.func69 rfl nn69 (fun w Q h => s69 _ w Q h) h) ?_
                intro v w h
                refine L_as ?_
                refine L_nil ?_
                refine E_n ?_
                refine wp_seq ?_
                refine D_region (by decide +kernel) 14 rfl ?_
                replace h := dr_e h
                refine G_p 0 rfl (by decide +kernel) (Y_mv h) ?_
                intro v h
                refine G_p 1 rfl (by decide +kernel) (Y_nc h) ?_
                intro v h
                refine G_p 2 rfl (by decide +kernel) (Y_fa fo96_3 h) ?_
                intro v h
                refine G_r _ 3 rfl (by decide +kernel) (R_ld sc94 h) ?_
                intro v h
                refine G_p 4 rfl (by decide +kernel) (Y_mv h) ?_
                intro v h
                refine G_p 5 rfl (by decide +kernel) (Y_nc h) ?_
                intro v h
                refine G_p 6 rfl (by decide +kernel) (Y_fa fo96_2 h) ?_
                intro v h
                refine G_r _ 7 rfl (by decide +kernel) (R_ld sc67 h) ?_
                intro v h
                refine G_e 8 rfl (by decide +kernel) (N_cl Tryz.func102 rfl nn102 (fun w Q h => s102 _ _ w Q h) h ?_)
                intro v w h
                refine ⟨keepF_dep [7] (by decide +kernel) rfl (keepF_dep [3] (by decide +kernel) rfl keepF_nil), ?_⟩
                refine G_p 9 rfl (by decide +kernel) (Y_mv h) ?_
                intro v h
                refine G_p 10 rfl (by decide +kernel) (Y_ex h) ?_
                intro v h
                refine G_p 11 rfl (by decide +kernel) (Y_ex h) ?_
                intro v h
                refine G_p 12 rfl (by decide +kernel) (Y_as h) ?_
                intro v h
                refine G_p 13 rfl (by decide +kernel) (Y_as h) ?_
                intro v h
                refine G_done (by decide +kernel) ?_
                refine E_n ?_
                refine wp_seq ?_
                refine L_region ?_
                refine L_mv ?_
                refine L_mv ?_
                refine L_u (P_nc h) ?_
                intro v w h
                refine L_u (P_fa fo96_2 h) ?_
                intro v w h
                refine L_u (P_st on67 h) ?_
                intro w h
                refine L_nil ?_
                refine E_n ?_
                refine wp_seq ?_
                refine L_region ?_
                refine L_mv ?_
                refine L_mv ?_
                refine L_u (P_eqi h) ?_
                intro v w h
                refine L_as ?_
                refine L_nil ?_
                refine E_n ?_
                refine C_ret ?_
                show bodyPost Tryz.prog Tryz.f57 (Rt Q) .ret _ _
                exact post_tmps (ts := [4]) (.inr rfl) rfl h

/- (*factotum/factotumref08.Work).Used -/
def f59_j3 (self2 : Value → Value → Value → M) (t0_2 t3_1 t4_1 : Value) : M :=
  ad .i64 t4_1 (.int .i64 1) fun t20 =>
  self2 t0_2 t3_1 t20
def f59_b2 (j1 : Value → M) (self2 : Value → Value → Value → M) (t0_1 t3 t4 : Value) : M :=
  nc t0_1 fun t7 =>
  fa 1 t7 fun t8 =>
  ld t8 fun t9 =>
  lnl t9 fun t10 =>
  lt .i64 t4 t10 fun t11 =>
  gd t11 true (idv t0_1) fun t13 =>
  gd t11 true (nc t13) fun t14 =>
  gd t11 true (fa 3 t14) fun t15 =>
  gd t11 true (ld t15) fun t16 =>
  gd t11 true (nt t16) fun t17 =>
  pk t11 t17 (.bool false) fun t18 =>
  cnd t18 (
    cl (f103 t0_1 t4) fun t23 =>
    jn (fun (j3 : Value → Value → Value → M) =>
      cnd t23 (
        ad .i64 t3 (.int .i64 1) fun t25 =>
        j3 t0_1 t25 t4
        ) (
        j3 t0_1 t3 t4
        )
      ) (f59_j3 self2)
    ) (
    j1 t3
    )
def f59_j1 (t3_2 : Value) : M :=
  rt t3_2
def f59 (t0 : Value) : M :=
  jn (fun (j1 : Value → M) =>
    lo (fun _ _ _ => bot) (f59_b2 j1) (fun l => l t0 (.int .i64 0) (.int .i64 0))
    ) (f59_j1)
theorem s59 (t0 : Value) (w : World) (Q : Value → World → Prop) (h : f59 t0 w Q) : Calls Tryz.prog 59 #[t0] w (Rt Q) := by
  refine calls_of (l := [t0]) Tryz.func59 rfl Tryz.ntmps59 (Nat.le_of_ble_eq_true rfl) ?_
  unfold f59 at h
  refine wp_seq ?_
  refine L_region ?_
  refine L_as ?_
  refine L_nil ?_
  refine E_n ?_
  refine wp_seq ?_
  refine L_region ?_
  refine L_as ?_
  refine L_nil ?_
  refine E_n ?_
  refine wp_seq ?_
  refine wp_seq ?_
  refine L_region ?_
  refine L_as ?_
  refine L_nil ?_
  refine E_n ?_
  refine C_join (fun (k : Value → M) (ρ : Nat → Value) => k (ρ 3)) h (fun j1 J1 h => ?_) (fun ρ w h => ?_)
  · refine C_blk ?_
    refine C_lo (fun (l : Value → Value → Value → M) (ρ : Nat → Value) => l (ρ 0) (ρ 3) (ρ 4)) h (fun ρ w h => h) (fun nx self2 L2 ρ w h => ?_)
    unfold f59_b2 at h
    refine wp_seq ?_
    refine wp_seq ?_
    refine L_region ?_
    refine L_mv ?_
    refine L_mv ?_
    refine L_u (P_nc h) ?_
    intro v w h
    refine L_u (P_fa fo151_1 h) ?_
    intro v w h
    refine L_u (P_ld sc100 h) ?_
    intro v w h
    refine L_u (P_lnl is100 h) ?_
    intro v w h
    refine L_u (P_lt h) ?_
    intro v w h
    refine L_mv ?_
    refine L_g (t := 12) h rfl rfl (fun c h => P_mv h c) ?_
    intro v w h
    refine L_g (t := 12) h rfl rfl (fun c h => P_nc h c) ?_
    intro v w h
    refine L_g (t := 12) h rfl rfl (fun c h => P_fa fo151_3 h c) ?_
    intro v w h
    refine L_g (t := 12) h rfl rfl (fun c h => P_ld sc4 h c) ?_
    intro v w h
    refine L_g (t := 12) h rfl rfl (fun c h => P_nt h c) ?_
    intro v w h
    refine L_u (P_pk h) ?_
    intro v w h
    refine L_nil ?_
    refine E_n ?_
    refine C_cnd h (fun h => ?_) (fun h => ?_)
    · refine C_skip ?_
      refine E_n ?_
      refine wp_seq ?_
      refine C_blk ?_
      refine wp_seq ?_
      refine L_region ?_
      refine L_mv ?_
      refine L_mv ?_
      refine L_u (N_cl Tryz.func103 rfl nn103 (fun w Q h => s103 _ _ w Q h) h) ?_
      intro v w h
      refine L_nil ?_
      refine E_n ?_
      refine C_join (fun (k : Value → Value → Value → M) (ρ : Nat → Value) => k (ρ 0) (ρ 3) (ρ 4)) h (fun j3 J3 h => ?_) (fun ρ w h => ?_)
      · refine C_cnd h (fun h => ?_) (fun h => ?_)
        · refine L_region ?_
          refine L_mv ?_
          refine L_u (P_ad h) ?_
          intro v w h
          refine L_as ?_
          refine L_nil ?_
          exact J3 _ _ h
        · refine C_skip ?_
          exact J3 _ _ h
      · unfold f59_j3 at h
        refine B_n ?_
        refine E_n ?_
        refine L_region ?_
        refine L_mv ?_
        refine L_u (P_ad h) ?_
        intro v w h
        refine L_as ?_
        refine L_nil ?_
        refine E_n ?_
        exact L2 _ _ h
    · refine C_exit ?_
      refine E_x ?_
      refine E_x ?_
      refine B_x ?_
      exact J1 _ _ h
  · unfold f59_j1 at h
    refine E_n ?_
    refine wp_seq ?_
    refine L_region ?_
    refine L_mv ?_
    refine L_as ?_
    refine L_nil ?_
    refine E_n ?_
    refine C_ret ?_
    show bodyPost Tryz.prog Tryz.f59 (Rt Q) .ret _ _
    exact post_tmps (ts := [2]) (.inr rfl) rfl h

/- factotum/factotumlaw08.SpaceTwo -/
def f10_b2 (j1 : Value → Value → M) (self2 : Value → Value → Value → Value → M) (t1_1 t2_1 t7 t9 : Value) : M :=
  lnl t1_1 fun t29 =>
  lt .i64 t9 t29 fun t30 =>
  cnd t30 (
    ia 3 t1_1 t9 fun t35 =>
    ldn 3 t35 fun t36 =>
    cl (f56 t36) fun t37 =>
    nei .i64 t37 (.int .i64 7) fun t38 =>
    gd t38 true (idv t7) fun t40 =>
    gd t38 true (idv t1_1) fun t41 =>
    gd t38 true (idv t9) fun t42 =>
    gd t38 true (ia 3 t41 t42) fun t43 =>
    gd t38 true (ldn 3 t43) fun t44 =>
    gd t38 true (cl (f57 t40 t44)) fun t45 =>
    gd t38 true (nt t45) fun t46 =>
    pk t38 t46 (.bool false) fun t47 =>
    cnd t47 (
      rt (.bool false)
      ) (
      ad .i64 t9 (.int .i64 1) fun t32 =>
      self2 t1_1 t2_1 t7 t32
      )
    ) (
    j1 t2_1 t7
    )
def f10_b4 (j3 : M) (self4 : Value → Value → Value → M) (t2_3 t7_2 t12 : Value) : M :=
  lnl t2_3 fun t76 =>
  lt .i64 t12 t76 fun t77 =>
  cnd t77 (
    dr <|
    idv t7_2 fun t80 =>
    idv t2_3 fun t81 =>
    idv t12 fun t82 =>
    ia 3 t81 t82 fun t83 =>
    ldn 3 t83 fun t84 =>
    cl (f57 t80 t84) fun t85 =>
    nt t85 fun t86 =>
    idv t86 fun t87 =>
    gd t87 false (idv t7_2) fun t88 =>
    gd t87 false (nc t88) fun t89 =>
    gd t87 false (fa 1 t89) fun t90 =>
    gd t87 false (ld t90) fun t91 =>
    gd t87 false (idv t7_2) fun t93 =>
    gd t87 false (nc t93) fun t94 =>
    gd t87 false (fa 3 t94) fun t95 =>
    gd t87 false (ld t95) fun t96 =>
    gd t87 false (cl (f19 t91)) fun t92 =>
    kp (fun w => gdB t87 false = true → Kld t95 t96 w) <|
    gd t87 false (cl (f59 t96)) fun t97 =>
    gd t87 false (nei .i64 t92 t97) fun t98 =>
    pk t87 (.bool true) t98 fun t99 =>
    cnd t99 (
      rt (.bool false)
      ) (
      ad .i64 t12 (.int .i64 1) fun t79 =>
      self4 t2_3 t7_2 t79
      )
    ) (
    j3
    )
def f10_j3 : M :=
  rt (.bool true)
def f10_j1 (t2_2 t7_1 : Value) : M :=
  smr Tryz.prog (Instr.build 92 #[(0, (.int .i64 7))]) fun t49 =>
  cl (f57 t7_1 t49) fun t50 =>
  nt t50 fun t51 =>
  cnd t51 (
    rt (.bool false)
    ) (
    nc t7_1 fun t54 =>
    fa 0 t54 fun t55 =>
    ld t55 fun t56 =>
    cl (f16 t56) fun t57 =>
    ex 0 t57 fun t58 =>
    ex 1 t57 fun t59 =>
    nei .i64 t59 (.int .i64 0) fun t61 =>
    cnd t61 (
      rt (.bool false)
      ) (
      nc t7_1 fun t64 =>
      fa 1 t64 fun t65 =>
      st t65 t58 <|
      nc t7_1 fun t68 =>
      fa 2 t68 fun t69 =>
      ld t69 fun t70 =>
      cl (f58 t70) fun t71 =>
      nc t7_1 fun t72 =>
      fa 3 t72 fun t73 =>
      st t73 t71 <|
      jn (fun (j3 : M) =>
        lo (fun _ _ _ => bot) (f10_b4 j3) (fun l => l t2_2 t7_1 (.int .i64 0))
        ) (f10_j3)
      )
    )
def f10 (t0 t1 t2 : Value) : M :=
  cl (f14) fun t13 =>
  nt t13 fun t14 =>
  cnd t14 (
    rt (.bool false)
    ) (
    cl (f15 t0) fun t17 =>
    cl (f54 t17) fun t18 =>
    ex 0 t18 fun t19 =>
    ex 1 t18 fun t20 =>
    nt t20 fun t22 =>
    cnd t22 (
      rt (.bool false)
      ) (
      cl (f55 t1) fun t24 =>
      cl (f55 t2) fun t26 =>
      jn (fun (j1 : Value → Value → M) =>
        lo (fun _ _ _ _ => bot) (f10_b2 j1) (fun l => l t24 t26 t19 (.int .i64 0))
        ) (f10_j1)
      )
    )
theorem s10 (t0 t1 t2 : Value) (w : World) (Q : Value → World → Prop) (h : f10 t0 t1 t2 w Q) : Calls Tryz.prog 10 #[t0, t1, t2] w (Rt Q) := by
  refine calls_of (l := [t0, t1, t2]) Tryz.func10 rfl Tryz.ntmps10 (Nat.le_of_ble_eq_true rfl) ?_
  unfold f10 at h
  refine wp_seq ?_
  refine L_region ?_
  refine L_as ?_
  refine L_nil ?_
  refine E_n ?_
  refine wp_seq ?_
  refine wp_seq ?_
  refine L_region ?_
  refine L_u (N_cl Tryz.func14 rfl nn14 (fun w Q h => s14 w Q h) h) ?_
  intro v w h
  refine L_u (P_nt h) ?_
  intro v w h
  refine L_nil ?_
  refine E_n ?_
  refine C_cnd h (fun h => ?_) (fun h => ?_)
  · refine wp_seq ?_
    refine L_region ?_
    refine L_as ?_
    refine L_nil ?_
    refine E_n ?_
    refine C_ret ?_
    show bodyPost Tryz.prog Tryz.f10 (Rt Q) .ret _ _
    exact post_tmps (ts := [6]) (.inr rfl) rfl h
  · refine C_skip ?_
    refine E_n ?_
    refine wp_seq ?_
    refine L_region ?_
    refine L_mv ?_
    refine L_u (N_cl Tryz.func15 rfl nn15 (fun w Q h => s15 _ w Q h) h) ?_
    intro v w h
    refine L_u (N_cl Tryz.func54 rfl nn54 (fun w Q h => s54 _ w Q h) h) ?_
    intro v w h
    refine L_mv ?_
    refine L_u (P_ex h) ?_
    intro v w h
    refine L_u (P_ex h) ?_
    intro v w h
    refine L_as ?_
    refine L_as ?_
    refine L_nil ?_
    refine E_n ?_
    refine wp_seq ?_
    refine wp_seq ?_
    refine L_region ?_
    refine L_mv ?_
    refine L_u (P_nt h) ?_
    intro v w h
    refine L_nil ?_
    refine E_n ?_
    refine C_cnd h (fun h => ?_) (fun h => ?_)
    · refine wp_seq ?_
      refine L_region ?_
      refine L_as ?_
      refine L_nil ?_
      refine E_n ?_
      refine C_ret ?_
      show bodyPost Tryz.prog Tryz.f10 (Rt Q) .ret _ _
      exact post_tmps (ts := [6]) (.inr rfl) rfl h
    · refine C_skip ?_
      refine E_n ?_
      refine wp_seq ?_
      refine L_region ?_
      refine L_mv ?_
      refine L_u (N_cl Tryz.func55 rfl nn55 (fun w Q h => s55 _ w Q h) h) ?_
      intro v w h
      refine L_mv ?_
      refine L_u (N_cl Tryz.func55 rfl nn55 (fun w Q h => s55 _ w Q h) h) ?_
      intro v w h
      refine L_as ?_
      refine L_as ?_
      refine L_nil ?_
      refine E_n ?_
      refine wp_seq ?_
      refine wp_seq ?_
      refine L_region ?_
      refine L_as ?_
      refine L_nil ?_
      refine E_n ?_
      refine C_join (fun (k : Value → Value → M) (ρ : Nat → Value) => k (ρ 2) (ρ 7)) h (fun j1 J1 h => ?_) (fun ρ w h => ?_)
      · refine C_blk ?_
        refine C_lo (fun (l : Value → Value → Value → Value → M) (ρ : Nat → Value) => l (ρ 1) (ρ 2) (ρ 7) (ρ 9)) h (fun ρ w h => h) (fun nx self2 L2 ρ w h => ?_)
        unfold f10_b2 at h
        refine wp_seq ?_
        refine wp_seq ?_
        refine L_region ?_
        refine L_mv ?_
        refine L_mv ?_
        refine L_u (P_lnl is86 h) ?_
        intro v w h
        refine L_u (P_lt h) ?_
        intro v w h
        refine L_nil ?_
        refine E_n ?_
        refine C_cnd h (fun h => ?_) (fun h => ?_)
        · refine C_skip ?_
          refine E_n ?_
          refine wp_seq ?_
          refine C_blk ?_
          refine wp_seq ?_
          refine L_region ?_
          refine L_mv ?_
          refine L_mv ?_
          refine L_u (P_ia se86 h) ?_
          intro v w h
          refine L_u (P_ldn ag92 h) ?_
          intro v w h
          refine L_u (N_cl Tryz.func56 rfl nn56 (fun w Q h => s56 _ w Q h) h) ?_
          intro v w h
          refine L_u (P_nei h) ?_
          intro v w h
          refine L_mv ?_
          refine L_g (t := 39) h rfl rfl (fun c h => P_mv h c) ?_
          intro v w h
          refine L_g (t := 39) h rfl rfl (fun c h => P_mv h c) ?_
          intro v w h
          refine L_g (t := 39) h rfl rfl (fun c h => P_mv h c) ?_
          intro v w h
          refine L_g (t := 39) h rfl rfl (fun c h => P_ia se86 h c) ?_
          intro v w h
          refine L_g (t := 39) h rfl rfl (fun c h => P_ldn ag92 h c) ?_
          intro v w h
          refine L_g (t := 39) h rfl rfl (fun c h => N_cl Tryz.func57 rfl nn57 (fun w Q h => s57 _ _ w Q h) h c) ?_
          intro v w h
          refine L_g (t := 39) h rfl rfl (fun c h => P_nt h c) ?_
          intro v w h
          refine L_u (P_pk h) ?_
          intro v w h
          refine L_nil ?_
          refine E_n ?_
          refine C_cnd h (fun h => ?_) (fun h => ?_)
          · refine wp_seq ?_
            refine L_region ?_
            refine L_as ?_
            refine L_nil ?_
            refine E_n ?_
            refine C_ret ?_
            show bodyPost Tryz.prog Tryz.f10 (Rt Q) .ret _ _
            exact post_tmps (ts := [6]) (.inr rfl) rfl h
          · refine C_skip ?_
            refine B_n ?_
            refine E_n ?_
            refine L_region ?_
            refine L_mv ?_
            refine L_u (P_ad h) ?_
            intro v w h
            refine L_as ?_
            refine L_nil ?_
            refine E_n ?_
            exact L2 _ _ h
        · refine C_exit ?_
          refine E_x ?_
          refine E_x ?_
          refine B_x ?_
          exact J1 _ _ h
      · unfold f10_j1 at h
        refine E_n ?_
        refine wp_seq ?_
        refine wp_seq ?_
        refine L_region ?_
        refine L_mv ?_
        refine L_u (N_bld h) ?_
        intro v w h
        refine L_u (N_cl Tryz.func57 rfl nn57 (fun w Q h => s57 _ _ w Q h) h) ?_
        intro v w h
        refine L_u (P_nt h) ?_
        intro v w h
        refine L_nil ?_
        refine E_n ?_
        refine C_cnd h (fun h => ?_) (fun h => ?_)
        · refine wp_seq ?_
          refine L_region ?_
          refine L_as ?_
          refine L_nil ?_
          refine E_n ?_
          refine C_ret ?_
          show bodyPost Tryz.prog Tryz.f10 (Rt Q) .ret _ _
          exact post_tmps (ts := [6]) (.inr rfl) rfl h
        · refine C_skip ?_
          refine E_n ?_
          refine wp_seq ?_
          refine L_region ?_
          refine L_mv ?_
          refine L_u (P_nc h) ?_
          intro v w h
          refine L_u (P_fa fo96_0 h) ?_
          intro v w h
          refine L_u (P_ld sc29 h) ?_
          intro v w h
          refine L_u (N_cl Tryz.func16 rfl nn16 (fun w Q h => s16 _ w Q h) h) ?_
          intro v w h
          refine L_mv ?_
          refine L_u (P_ex h) ?_
          intro v w h
          refine L_u (P_ex h) ?_
          intro v w h
          refine L_as ?_
          refine L_as ?_
          refine L_nil ?_
          refine E_n ?_
          refine wp_seq ?_
          refine wp_seq ?_
          refine L_region ?_
          refine L_mv ?_
          refine L_u (P_nei h) ?_
          intro v w h
          refine L_nil ?_
          refine E_n ?_
          refine C_cnd h (fun h => ?_) (fun h => ?_)
          · refine wp_seq ?_
            refine L_region ?_
            refine L_as ?_
            refine L_nil ?_
            refine E_n ?_
            refine C_ret ?_
            show bodyPost Tryz.prog Tryz.f10 (Rt Q) .ret _ _
            exact post_tmps (ts := [6]) (.inr rfl) rfl h
          · refine C_skip ?_
            refine E_n ?_
            refine wp_seq ?_
            refine L_region ?_
            refine L_mv ?_
            refine L_mv ?_
            refine L_u (P_nc h) ?_
            intro v w h
            refine L_u (P_fa fo96_1 h) ?_
            intro v w h
            refine L_u (P_st on25 h) ?_
            intro w h
            refine L_nil ?_
            refine E_n ?_
            refine wp_seq ?_
            refine L_region ?_
            refine L_mv ?_
            refine L_mv ?_
            refine L_u (P_nc h) ?_
            intro v w h
            refine L_u (P_fa fo96_2 h) ?_
            intro v w h
            refine L_u (P_ld sc67 h) ?_
            intro v w h
            refine L_u (N_cl Tryz.func58 rfl nn58 (fun w Q h => s58 _ w Q h) h) ?_
            intro v w h
            refine L_u (P_nc h) ?_
            intro v w h
            refine L_u (P_fa fo96_3 h) ?_
            intro v w h
            refine L_u (P_st on94 h) ?_
            intro w h
            refine L_nil ?_
            refine E_n ?_
            refine wp_seq ?_
            refine wp_seq ?_
            refine L_region ?_
            refine L_as ?_
            refine L_nil ?_
            refine E_n ?_
            refine C_join (fun (k : M) (ρ : Nat → Value) => k) h (fun j3 J3 h => ?_) (fun ρ w h => ?_)
            · refine C_blk ?_
              refine C_lo (fun (l : Value → Value → Value → M) (ρ : Nat → Value) => l (ρ 2) (ρ 7) (ρ 12)) h (fun ρ w h => h) (fun nx self4 L4 ρ w h => ?_)
              unfold f10_b4 at h
              refine wp_seq ?_
              refine wp_seq ?_
              refine L_region ?_
              refine L_mv ?_
              refine L_mv ?_
              refine L_u (P_lnl is86 h) ?_
              intro v w h
              refine L_u (P_lt h) ?_
              intro v w h
              refine L_nil ?_
              refine E_n ?_
              refine C_cnd h (fun h => ?_) (fun h => ?_)
              · refine C_skip ?_
                refine E_n ?_
                refine wp_seq ?_
                refine C_blk ?_
                refine wp_seq ?_
                refine D_region (by decide +kernel) 20 rfl ?_
                replace h := dr_e h
                refine G_p 0 rfl (by decide +kernel) (Y_mv h) ?_
                intro v h
                refine G_p 1 rfl (by decide +kernel) (Y_mv h) ?_
                intro v h
                refine G_p 2 rfl (by decide +kernel) (Y_mv h) ?_
                intro v h
                refine G_p 3 rfl (by decide +kernel) (Y_ia se86 h) ?_
                intro v h
                refine G_r _ 4 rfl (by decide +kernel) (R_ldn ag92 h) ?_
                intro v h
                refine G_e 5 rfl (by decide +kernel) (N_cl Tryz.func57 rfl nn57 (fun w Q h => s57 _ _ w Q h) h ?_)
                intro v w h
                refine ⟨keepF_dep [4] (by decide +kernel) rfl keepF_nil, ?_⟩
                refine G_p 6 rfl (by decide +kernel) (Y_nt h) ?_
                intro v h
                refine G_p 7 rfl (by decide +kernel) (Y_mv h) ?_
                intro v h
                refine G_pg (t := 87) 8 rfl (by decide +kernel) h rfl rfl (fun h => Y_mv h) ?_
                intro v h
                refine G_pg (t := 87) 9 rfl (by decide +kernel) h rfl rfl (fun h => Y_nc h) ?_
                intro v h
                refine G_pg (t := 87) 10 rfl (by decide +kernel) h rfl rfl (fun h => Y_fa fo96_1 h) ?_
                intro v h
                refine G_rg (t := 87) _ 11 rfl (by decide +kernel) h rfl rfl (fun h => R_ld sc25 h) ?_
                intro v h
                refine G_pg (t := 87) 13 rfl (by decide +kernel) h rfl rfl (fun h => Y_mv h) ?_
                intro v h
                refine G_pg (t := 87) 14 rfl (by decide +kernel) h rfl rfl (fun h => Y_nc h) ?_
                intro v h
                refine G_pg (t := 87) 15 rfl (by decide +kernel) h rfl rfl (fun h => Y_fa fo96_3 h) ?_
                intro v h
                refine G_rg (t := 87) _ 16 rfl (by decide +kernel) h rfl rfl (fun h => R_ld sc94 h) ?_
                intro v h
                refine G_eg (t := 87) 12 rfl (by decide +kernel) h rfl rfl (fun c h => N_cl Tryz.func19 rfl nn19 (fun w Q h => s19 _ w Q h) h c) ?_
                intro v w h
                refine ⟨keepF_cons (kp_1 h) (keepF_dep [11] (by decide +kernel) rfl (keepF_dep [7, 5, 4] (by decide +kernel) rfl keepF_nil)), ?_⟩
                replace h := (kp_2 h)
                refine G_eg (t := 87) 17 rfl (by decide +kernel) h rfl rfl (fun c h => N_cl Tryz.func59 rfl nn59 (fun w Q h => s59 _ w Q h) h c) ?_
                intro v w h
                refine ⟨keepF_dep [16] (by decide +kernel) rfl (keepF_dep [12, 11] (by decide +kernel) rfl (keepF_dep [7, 5, 4] (by decide +kernel) rfl keepF_nil)), ?_⟩
                refine G_pg (t := 87) 18 rfl (by decide +kernel) h rfl rfl (fun h => Y_nei h) ?_
                intro v h
                refine G_p 19 rfl (by decide +kernel) (Y_pk h) ?_
                intro v h
                refine G_done (by decide +kernel) ?_
                refine E_n ?_
                refine C_cnd h (fun h => ?_) (fun h => ?_)
                · refine wp_seq ?_
                  refine L_region ?_
                  refine L_as ?_
                  refine L_nil ?_
                  refine E_n ?_
                  refine C_ret ?_
                  show bodyPost Tryz.prog Tryz.f10 (Rt Q) .ret _ _
                  exact post_tmps (ts := [6]) (.inr rfl) rfl h
                · refine C_skip ?_
                  refine B_n ?_
                  refine E_n ?_
                  refine L_region ?_
                  refine L_mv ?_
                  refine L_u (P_ad h) ?_
                  intro v w h
                  refine L_as ?_
                  refine L_nil ?_
                  refine E_n ?_
                  exact L4 _ _ h
              · refine C_exit ?_
                refine E_x ?_
                refine E_x ?_
                refine B_x ?_
                exact J3 _ _ h
            · unfold f10_j3 at h
              refine E_n ?_
              refine wp_seq ?_
              refine L_region ?_
              refine L_as ?_
              refine L_nil ?_
              refine E_n ?_
              refine C_ret ?_
              show bodyPost Tryz.prog Tryz.f10 (Rt Q) .ret _ _
              exact post_tmps (ts := [6]) (.inr rfl) rfl h
end Go.Proofs.YtongpnolikkknaaGreatDoor

set_option maxRecDepth 20000
set_option maxHeartbeats 4000000
namespace Go.Proofs.YtongpnolikkknaaGreatDoor
open Sh
attribute [local irreducible] wpL anyG act jn lo gdB amb kp smr nc fa ld ldn st stn ad su mu qu re lt le gt ge eqi nei bws shl shr cat eqs nes lts gts eqb neb nt pk cv al bx ex fld fldn lnl lns ia iaa ixs sls sll sla mif mnm mxm mm asrt sm smu cl cc cf ci cnd gd gdu
/- (*factotum/space.Work).Head -/
def f60 (t0 : Value) : M :=
  cl (f70 t0) fun t4 =>
  nei .i64 t4 (.int .i64 0) fun t5 =>
  cnd t5 (
    rt (.string ⟨#[]⟩)
    ) (
    nc t0 fun t7 =>
    fa 1 t7 fun t8 =>
    fa 20 t8 fun t9 =>
    ld t9 fun t10 =>
    rt t10
    )
def f61 (t0 : Value) : M :=
  nc t0 fun t4 =>
  fa 3 t4 fun t5 =>
  ld t5 fun t6 =>
  cnd t6 (
    rt (.string ⟨#[]⟩)
    ) (
    nc t0 fun t8 =>
    fa 1 t8 fun t9 =>
    ld t9 fun t10 =>
    ia 1 t10 (.int .i64 0) fun t11 =>
    ld t11 fun t12 =>
    sls t12 (some (.int .i64 20)) none fun t13 =>
    rt t13
    )
def f62_b2 (j1 : Value → M) (self2 : Value → Value → Value → Value → M) (t3 t10_1 t11_1 t12 : Value) : M :=
  lt .i64 t12 t11_1 fun t13 =>
  cnd t13 (
    ia 2 t10_1 t12 fun t14 =>
    ldn 2 t14 fun t15 =>
    al 48 #[(.int .i64 0), (.string ⟨#[]⟩)] fun t5 =>
    stn 2 t5 t15 <|
    fa 0 t5 fun t17 =>
    ld t17 fun t18 =>
    sm Tryz.prog (Instr.buildSlice 22 1 #[(0, t18)]) fun t19 =>
    sm Tryz.prog (Builtin.append_ #[22, 22] 22 #[t3, t19]) fun t20 =>
    ad .i64 t12 (.int .i64 1) fun t21 =>
    self2 t20 t10_1 t11_1 t21
    ) (
    j1 t3
    )
def f62_j1 (t3_1 : Value) : M :=
  rt t3_1
def f62 (t0 : Value) : M :=
  cl (f70 t0) fun t7 =>
  nei .i64 t7 (.int .i64 0) fun t8 =>
  cnd t8 (
    rt (.slice none 0 0)
    ) (
    cl (f104 t0) fun t10 =>
    lnl t10 fun t11 =>
    jn (fun (j1 : Value → M) =>
      lo (fun _ _ _ _ => bot) (f62_b2 j1) (fun l => l (.slice none 0 0) t10 t11 (.int .i64 0))
      ) (f62_j1)
    )
def f11_b2 (j1 : Value → M) (self2 : Value → Value → Value → M) (t1_1 t5 t7 : Value) : M :=
  lnl t1_1 fun t25 =>
  lt .i64 t7 t25 fun t26 =>
  cnd t26 (
    dr <|
    idv t5 fun t29 =>
    idv t1_1 fun t30 =>
    idv t7 fun t31 =>
    ia 3 t30 t31 fun t32 =>
    ldn 3 t32 fun t33 =>
    cl (f57 t29 t33) fun t34 =>
    nt t34 fun t35 =>
    idv t35 fun t36 =>
    gd t36 false (idv t5) fun t37 =>
    gd t36 false (nc t37) fun t38 =>
    gd t36 false (fa 1 t38) fun t39 =>
    gd t36 false (ld t39) fun t40 =>
    gd t36 false (idv t5) fun t42 =>
    gd t36 false (nc t42) fun t43 =>
    gd t36 false (fa 3 t43) fun t44 =>
    gd t36 false (ld t44) fun t45 =>
    gd t36 false (cl (f19 t40)) fun t41 =>
    kp (fun w => gdB t36 false = true → Kld t44 t45 w) <|
    gd t36 false (cl (f59 t45)) fun t46 =>
    gd t36 false (nei .i64 t41 t46) fun t47 =>
    pk t36 (.bool true) t47 fun t48 =>
    idv t48 fun t49 =>
    gd t49 false (idv t5) fun t50 =>
    gd t49 false (nc t50) fun t51 =>
    gd t49 false (fa 1 t51) fun t52 =>
    gd t49 false (ld t52) fun t53 =>
    gd t49 false (idv t5) fun t55 =>
    gd t49 false (nc t55) fun t56 =>
    gd t49 false (fa 3 t56) fun t57 =>
    gd t49 false (ld t57) fun t58 =>
    gd t49 false (cl (f60 t53)) fun t54 =>
    kp (fun w => gdB t49 false = true → Kld t57 t58 w) <|
    gd t49 false (cl (f61 t58)) fun t59 =>
    gd t49 false (nes t54 t59) fun t60 =>
    pk t49 (.bool true) t60 fun t61 =>
    idv t61 fun t62 =>
    gd t62 false (idv t5) fun t63 =>
    gd t62 false (nc t63) fun t64 =>
    gd t62 false (fa 1 t64) fun t65 =>
    gd t62 false (ld t65) fun t66 =>
    gd t62 false (idv t5) fun t68 =>
    gd t62 false (nc t68) fun t69 =>
    gd t62 false (fa 3 t69) fun t70 =>
    gd t62 false (ld t70) fun t71 =>
    gd t62 false (cl (f62 t66)) fun t67 =>
    kp (fun w => gdB t62 false = true → Kld t70 t71 w) <|
    gd t62 false (cl (f63 t71)) fun t72 =>
    gd t62 false (cl (f33 t67 t72)) fun t73 =>
    gd t62 false (nt t73) fun t74 =>
    pk t62 (.bool true) t74 fun t75 =>
    cnd t75 (
      rt (.bool false)
      ) (
      ad .i64 t7 (.int .i64 1) fun t28 =>
      self2 t1_1 t5 t28
      )
    ) (
    j1 t5
    )
def f11_b4 (j3 : M) (self4 : Value → Value → M) (t5_2 t8 : Value) : M :=
  nc t5_2 fun t78 =>
  fa 2 t78 fun t79 =>
  ld t79 fun t80 =>
  nc t80 fun t81 =>
  fa 0 t81 fun t82 =>
  ld t82 fun t83 =>
  lnl t83 fun t84 =>
  lt .i64 t8 t84 fun t85 =>
  cnd t85 (
    nc t5_2 fun t90 =>
    fa 0 t90 fun t91 =>
    ld t91 fun t92 =>
    cl (f27 t92 t8) fun t94 =>
    ex 0 t94 fun t95 =>
    ex 1 t94 fun t96 =>
    nei .i64 t96 (.int .i64 0) fun t98 =>
    gd t98 false (idv t95) fun t100 =>
    gd t98 false (idv t5_2) fun t101 =>
    gd t98 false (nc t101) fun t102 =>
    gd t98 false (fa 2 t102) fun t103 =>
    gd t98 false (ld t103) fun t104 =>
    gd t98 false (nc t104) fun t105 =>
    gd t98 false (fa 0 t105) fun t106 =>
    gd t98 false (ld t106) fun t107 =>
    gd t98 false (idv t8) fun t108 =>
    gd t98 false (ia 1 t107 t108) fun t109 =>
    gd t98 false (ld t109) fun t110 =>
    gd t98 false (nes t100 t110) fun t111 =>
    pk t98 (.bool true) t111 fun t112 =>
    cnd t112 (
      rt (.bool false)
      ) (
      ad .i64 t8 (.int .i64 1) fun t87 =>
      self4 t5_2 t87
      )
    ) (
    j3
    )
def f11_j3 : M :=
  rt (.bool true)
def f11_j1 (t5_1 : Value) : M :=
  jn (fun (j3 : M) =>
    lo (fun _ _ => bot) (f11_b4 j3) (fun l => l t5_1 (.int .i64 0))
    ) (f11_j3)
def f11 (t0 t1 : Value) : M :=
  cl (f14) fun t11 =>
  nt t11 fun t12 =>
  cnd t12 (
    rt (.bool false)
    ) (
    cl (f15 t0) fun t15 =>
    cl (f54 t15) fun t16 =>
    ex 0 t16 fun t17 =>
    ex 1 t16 fun t18 =>
    nt t18 fun t20 =>
    cnd t20 (
      rt (.bool false)
      ) (
      cl (f55 t1) fun t22 =>
      jn (fun (j1 : Value → M) =>
        lo (fun _ _ _ => bot) (f11_b2 j1) (fun l => l t22 t17 (.int .i64 0))
        ) (f11_j1)
      )
    )
def f12_j3 (self2 : Value → Value → Value → Value → M) (t1_2 t2_2 t7_1 t9_1 : Value) : M :=
  ad .i64 t9_1 (.int .i64 1) fun t41 =>
  self2 t1_2 t2_2 t7_1 t41
def f12_b2 (j1 : Value → Value → M) (self2 : Value → Value → Value → Value → M) (t1_1 t2_1 t7 t9 : Value) : M :=
  lnl t1_1 fun t38 =>
  lt .i64 t9 t38 fun t39 =>
  cnd t39 (
    ia 3 t1_1 t9 fun t44 =>
    ldn 3 t44 fun t45 =>
    cl (f56 t45) fun t46 =>
    nei .i64 t46 (.int .i64 7) fun t47 =>
    jn (fun (j3 : Value → Value → Value → Value → M) =>
      cnd t47 (
        ia 3 t1_1 t9 fun t51 =>
        ldn 3 t51 fun t52 =>
        cl (f57 t7 t52) fun t53 =>
        j3 t1_1 t2_1 t7 t9
        ) (
        j3 t1_1 t2_1 t7 t9
        )
      ) (f12_j3 self2)
    ) (
    j1 t2_1 t7
    )
def f12_b5 (j4 : Value → Value → Value → Value → Value → Value → Value → M) (self5 : Value → Value → Value → Value → Value → Value → Value → Value → M) (t2_4 t7_3 t10 t11_1 t12_1 t13_1 t14 t15 : Value) : M :=
  nc t7_3 fun t76 =>
  fa 0 t76 fun t77 =>
  ld t77 fun t78 =>
  cl (f28 t78) fun t79 =>
  lt .i64 t15 t79 fun t80 =>
  cnd t80 (
    nc t7_3 fun t85 =>
    fa 1 t85 fun t86 =>
    ld t86 fun t87 =>
    cl (f65 t87 t15) fun t89 =>
    ex 0 t89 fun t90 =>
    ex 1 t89 fun t91 =>
    sm Tryz.prog (Instr.buildSlice 100 1 #[(0, t90)]) fun t94 =>
    sm Tryz.prog (Builtin.append_ #[100, 100] 100 #[t14, t94]) fun t95 =>
    ad .i64 t15 (.int .i64 1) fun t82 =>
    self5 t2_4 t7_3 t10 t11_1 t12_1 t13_1 t95 t82
    ) (
    j4 t2_4 t7_3 t10 t11_1 t12_1 t13_1 t14
    )
def f12_j8 (self7 : Value → Value → Value → Value → Value → Value → Value → Value → M) (t2_7 t7_6 t10_3 t11_4 t12_4 t13_4 t14_3 t18_1 : Value) : M :=
  ad .i64 t18_1 (.int .i64 1) fun t101 =>
  self7 t2_7 t7_6 t10_3 t11_4 t12_4 t13_4 t14_3 t101
def f12_b7 (j6 : Value → Value → Value → Value → Value → Value → M) (self7 : Value → Value → Value → Value → Value → Value → Value → Value → M) (t2_6 t7_5 t10_2 t11_3 t12_3 t13_3 t14_2 t18 : Value) : M :=
  lnl t2_6 fun t98 =>
  lt .i64 t18 t98 fun t99 =>
  cnd t99 (
    ia 3 t2_6 t18 fun t104 =>
    ldn 3 t104 fun t105 =>
    cl (f56 t105) fun t106 =>
    nei .i64 t106 (.int .i64 7) fun t107 =>
    gd t107 true (idv t2_6) fun t109 =>
    gd t107 true (idv t18) fun t110 =>
    gd t107 true (ia 3 t109 t110) fun t111 =>
    gd t107 true (ldn 3 t111) fun t112 =>
    gd t107 true (cl (f56 t112)) fun t113 =>
    gd t107 true (nei .i64 t113 (.int .i64 6)) fun t114 =>
    pk t107 t114 (.bool false) fun t115 =>
    jn (fun (j8 : Value → Value → Value → Value → Value → Value → Value → Value → M) =>
      cnd t115 (
        ia 3 t2_6 t18 fun t119 =>
        ldn 3 t119 fun t120 =>
        cl (f57 t7_5 t120) fun t121 =>
        j8 t2_6 t7_5 t10_2 t11_3 t12_3 t13_3 t14_2 t18
        ) (
        j8 t2_6 t7_5 t10_2 t11_3 t12_3 t13_3 t14_2 t18
        )
      ) (f12_j8 self7)
    ) (
    j6 t7_5 t10_2 t11_3 t12_3 t13_3 t14_2
    )
def f12_b10 (j9 : M) (self10 : Value → Value → Value → M) (t7_8 t14_5 t19 : Value) : M :=
  nc t7_8 fun t159 =>
  fa 0 t159 fun t160 =>
  ld t160 fun t161 =>
  cl (f28 t161) fun t162 =>
  lt .i64 t19 t162 fun t163 =>
  cnd t163 (
    nc t7_8 fun t168 =>
    fa 1 t168 fun t169 =>
    ld t169 fun t170 =>
    cl (f65 t170 t19) fun t172 =>
    ex 0 t172 fun t173 =>
    ex 1 t172 fun t174 =>
    ia 1 t14_5 t19 fun t178 =>
    ld t178 fun t179 =>
    nes t173 t179 fun t180 =>
    cnd t180 (
      rt (.bool false)
      ) (
      ad .i64 t19 (.int .i64 1) fun t165 =>
      self10 t7_8 t14_5 t165
      )
    ) (
    j9
    )
def f12_j9 : M :=
  rt (.bool true)
def f12_j6 (t7_7 t10_4 t11_5 t12_5 t13_5 t14_4 : Value) : M :=
  nc t7_7 fun t123 =>
  fa 1 t123 fun t124 =>
  ld t124 fun t125 =>
  cl (f66 t125 t10_4) fun t127 =>
  nei .i64 t127 (.int .i64 0) fun t128 =>
  gd t128 false (idv t7_7) fun t130 =>
  gd t128 false (nc t130) fun t131 =>
  gd t128 false (fa 1 t131) fun t132 =>
  gd t128 false (ld t132) fun t133 =>
  gd t128 false (cl (f60 t133)) fun t134 =>
  gd t128 false (idv t11_5) fun t135 =>
  gd t128 false (nes t134 t135) fun t136 =>
  pk t128 (.bool true) t136 fun t137 =>
  gd t137 false (idv t7_7) fun t139 =>
  gd t137 false (nc t139) fun t140 =>
  gd t137 false (fa 1 t140) fun t141 =>
  gd t137 false (ld t141) fun t142 =>
  gd t137 false (cl (f19 t142)) fun t143 =>
  gd t137 false (idv t12_5) fun t144 =>
  gd t137 false (nei .i64 t143 t144) fun t145 =>
  pk t137 (.bool true) t145 fun t146 =>
  gd t146 false (idv t7_7) fun t148 =>
  gd t146 false (nc t148) fun t149 =>
  gd t146 false (fa 1 t149) fun t150 =>
  gd t146 false (ld t150) fun t151 =>
  gd t146 false (cl (f62 t151)) fun t152 =>
  gd t146 false (idv t13_5) fun t153 =>
  gd t146 false (cl (f33 t152 t153)) fun t154 =>
  gd t146 false (nt t154) fun t155 =>
  pk t146 (.bool true) t155 fun t156 =>
  cnd t156 (
    rt (.bool false)
    ) (
    jn (fun (j9 : M) =>
      lo (fun _ _ _ => bot) (f12_b10 j9) (fun l => l t7_7 t14_4 (.int .i64 0))
      ) (f12_j9)
    )
def f12_j4 (t2_5 t7_4 t10_1 t11_2 t12_2 t13_2 t14_1 : Value) : M :=
  jn (fun (j6 : Value → Value → Value → Value → Value → Value → M) =>
    lo (fun _ _ _ _ _ _ _ _ => bot) (f12_b7 j6) (fun l => l t2_5 t7_4 t10_1 t11_2 t12_2 t13_2 t14_1 (.int .i64 0))
    ) (f12_j6)
def f12_j1 (t2_3 t7_2 : Value) : M :=
  nc t7_2 fun t55 =>
  fa 1 t55 fun t56 =>
  ld t56 fun t57 =>
  cl (f64 t57) fun t58 =>
  dr <|
  idv t7_2 fun t59 =>
  nc t59 fun t60 =>
  fa 1 t60 fun t61 =>
  ld t61 fun t62 =>
  idv t7_2 fun t64 =>
  nc t64 fun t65 =>
  fa 1 t65 fun t66 =>
  ld t66 fun t67 =>
  idv t7_2 fun t69 =>
  nc t69 fun t70 =>
  fa 1 t70 fun t71 =>
  ld t71 fun t72 =>
  cl (f60 t62) fun t63 =>
  kp (Kld t71 t72) <|
  kp (Kld t66 t67) <|
  cl (f19 t67) fun t68 =>
  kp (Kld t71 t72) <|
  cl (f62 t72) fun t73 =>
  idv t63 fun t11 =>
  idv t68 fun t12 =>
  idv t73 fun t13 =>
  jn (fun (j4 : Value → Value → Value → Value → Value → Value → Value → M) =>
    lo (fun _ _ _ _ _ _ _ _ => bot) (f12_b5 j4) (fun l => l t2_3 t7_2 t58 t11 t12 t13 (.slice none 0 0) (.int .i64 0))
    ) (f12_j4)
def f12 (t0 t1 t2 : Value) : M :=
  cl (f14) fun t22 =>
  nt t22 fun t23 =>
  cnd t23 (
    rt (.bool false)
    ) (
    cl (f15 t0) fun t26 =>
    cl (f54 t26) fun t27 =>
    ex 0 t27 fun t28 =>
    ex 1 t27 fun t29 =>
    nt t29 fun t31 =>
    cnd t31 (
      rt (.bool false)
      ) (
      cl (f55 t1) fun t33 =>
      cl (f55 t2) fun t35 =>
      jn (fun (j1 : Value → Value → M) =>
        lo (fun _ _ _ _ => bot) (f12_b2 j1) (fun l => l t33 t35 t28 (.int .i64 0))
        ) (f12_j1)
      )
    )
def f13 (t0 : Value) : M :=
  cl (f14) fun t9 =>
  nt t9 fun t10 =>
  cnd t10 (
    rt (.bool false)
    ) (
    cl (f16 (.pointer none)) fun t12 =>
    ex 0 t12 fun t13 =>
    ex 1 t12 fun t14 =>
    cl (f65 t13 t0) fun t18 =>
    ex 0 t18 fun t19 =>
    ex 1 t18 fun t20 =>
    cl (f18 t13) fun t23 =>
    ex 0 t23 fun t24 =>
    ex 1 t23 fun t25 =>
    smr Tryz.prog (do eqGuard .eql 25 (.tmp 26) (.const (.pointer none)) t13 (.pointer none); binOp .eql 25 t13 (.pointer none)) fun t27 =>
    gd t27 true (idv t14) fun t29 =>
    gd t27 true (eqi .i64 t29 (.int .i64 1)) fun t30 =>
    pk t27 t30 (.bool false) fun t31 =>
    gd t31 true (idv t19) fun t33 =>
    gd t31 true (eqs t33 (.string ⟨#[]⟩)) fun t34 =>
    pk t31 t34 (.bool false) fun t35 =>
    gd t35 true (idv t20) fun t37 =>
    gd t35 true (eqi .i64 t37 (.int .i64 1)) fun t38 =>
    pk t35 t38 (.bool false) fun t39 =>
    gd t39 true (idv t24) fun t41 =>
    gd t39 true (eqi .i64 t41 (.int .i64 0)) fun t42 =>
    pk t39 t42 (.bool false) fun t43 =>
    gd t43 true (idv t25) fun t45 =>
    gd t43 true (eqi .i64 t45 (.int .i64 1)) fun t46 =>
    pk t43 t46 (.bool false) fun t47 =>
    gd t47 true (idv t13) fun t49 =>
    gd t47 true (idv t0) fun t50 =>
    gd t47 true (cl (f67 t49 t50 (.string ⟨#[]⟩))) fun t51 =>
    gd t47 true (eqi .i64 t51 (.int .i64 1)) fun t52 =>
    pk t47 t52 (.bool false) fun t53 =>
    gd t53 true (idv t13) fun t55 =>
    gd t53 true (idv t0) fun t56 =>
    gd t53 true (cl (f20 t55 t56)) fun t57 =>
    gd t53 true (eqi .i64 t57 (.int .i64 1)) fun t58 =>
    pk t53 t58 (.bool false) fun t59 =>
    gd t59 true (idv t13) fun t61 =>
    gd t59 true (cl (f68 t61 (.string ⟨#[]⟩))) fun t62 =>
    gd t59 true (eqi .i64 t62 (.int .i64 1)) fun t63 =>
    pk t59 t63 (.bool false) fun t64 =>
    gd t64 true (idv t13) fun t66 =>
    gd t64 true (idv t0) fun t67 =>
    gd t64 true (cl (f66 t66 t67)) fun t68 =>
    gd t64 true (eqi .i64 t68 (.int .i64 1)) fun t69 =>
    pk t64 t69 (.bool false) fun t70 =>
    gd t70 true (idv t13) fun t72 =>
    gd t70 true (cl (f69 t72)) fun t73 =>
    gd t70 true (eqi .i64 t73 (.int .i64 1)) fun t74 =>
    pk t70 t74 (.bool false) fun t75 =>
    gd t75 true (idv t13) fun t77 =>
    gd t75 true (cl (f60 t77)) fun t78 =>
    gd t75 true (eqs t78 (.string ⟨#[]⟩)) fun t79 =>
    pk t75 t79 (.bool false) fun t80 =>
    gd t80 true (idv t13) fun t82 =>
    gd t80 true (cl (f64 t82)) fun t83 =>
    gd t80 true (eqi .i64 t83 (.int .i64 0)) fun t84 =>
    pk t80 t84 (.bool false) fun t85 =>
    gd t85 true (idv t13) fun t87 =>
    gd t85 true (cl (f19 t87)) fun t88 =>
    gd t85 true (eqi .i64 t88 (.int .i64 0)) fun t89 =>
    pk t85 t89 (.bool false) fun t90 =>
    gd t90 true (idv t13) fun t92 =>
    gd t90 true (cl (f62 t92)) fun t93 =>
    gd t90 true (lnl t93) fun t94 =>
    gd t90 true (eqi .i64 t94 (.int .i64 0)) fun t95 =>
    pk t90 t95 (.bool false) fun t96 =>
    rt t96
    )
end Go.Proofs.YtongpnolikkknaaGreatDoor

namespace Go.Proofs.YtongpnolikkknaaGreatDoor
namespace Sh
open RowKit
/-- a string's bytes as whole numbers -/
def byL (s : ByteArray) : List Int := s.data.toList.map (fun b => (b.toNat : Int))
theorem byL_len (s : ByteArray) : (byL s).length = s.size := by simp only [byL, List.length_map, Array.length_toList]; rfl
theorem byL_get (s : ByteArray) (i : Nat) (h : i < (byL s).length) : ∃ c, s[i]? = some c ∧ (byL s)[i] = (c.toNat : Int) := by
  have h' : i < s.size := by rw [byL_len] at h; exact h
  refine ⟨s[i], ?_, ?_⟩
  · rw [getElem?_pos s i h']
  · simp only [byL, List.getElem_map, Array.getElem_toList]; rfl
theorem byL_nn {s : ByteArray} {x : Int} (h : x ∈ byL s) : 0 ≤ x ∧ x ≤ 255 := by
  simp only [byL, List.mem_map] at h
  obtain ⟨b, _, rfl⟩ := h
  have := b.toNat_lt
  omega
section
variable {P : Program} {w : World} {Q : Value → World → Prop} {K : Value → M} {B : Nat}
theorem Below_bytes {A : World} (e : TypeId) (s : ByteArray) (h : Below B A w) (hB : B ≤ w.heap.size) : Below B A (Go.Lib.bytesWorld w e s) :=
  h.trans ⟨rfl, rfl, rfl, by rw [Go.Lib.bytesWorld_size]; omega, fun k hk => Go.Lib.bytesWorld_at_old w e s k (by omega)⟩
theorem cvs {src dst e : TypeId} {z : Value} {n b : Nat} {s : ByteArray} (hs : isStr P src = true) (h : slT P dst e z n b) (he : P.underlying e = some (.int .u8))
    (k : ∀ v w', rdI .u8 w' v (byL s) → Below w.heap.size w w' → K v w' Q) : sm P (convert src dst (.string s)) K w Q := by
  obtain ⟨i, h1, _⟩ := slT_info h
  unfold isStr at hs
  cases hu : P.underlying src with
  | none => simp [hu] at hs
  | some u =>
    refine ⟨_, _, Go.Lib.run_convert_string_bytes w src dst e s hu h1 he, k _ _ ?_ (Below_bytes e s (Below.refl _ w) (Nat.le_refl _))⟩
    refine ⟨_, _, by rw [byL_len], ?_⟩
    intro i hi
    have hi' : i < s.size := by rw [byL_len] at hi; exact hi
    refine ⟨_, rfl, ?_⟩
    rw [add_lit, Nat.zero_add, Go.Lib.bytesWorld_cell w e s i hi']
    have hd : i < s.data.toList.length := by simpa using hi'
    simp [byL, List.getD, hi']
/-- a block that is there stays -/
theorem stay {w w' : World} {p : Nat} {o : Obj} (hb : Below w.heap.size w w') (h : w.heap[p]? = some o) : w'.heap[p]? = some o := by
  rcases Nat.lt_or_ge p w.heap.size with hp | hp
  · rw [hb.block p hp]; exact h
  · simp [Array.getElem?_eq_none hp] at h
theorem blk_lt {w : World} {p : Nat} {o : Obj} (h : w.heap[p]? = some o) : p < w.heap.size := by
  rcases Nat.lt_or_ge p w.heap.size with hp | hp
  · exact hp
  · simp [Array.getElem?_eq_none hp] at h
theorem bt {w0 w w' : World} (b : Below w0.heap.size w0 w) (hb : Below w.heap.size w w') : Below w0.heap.size w0 w' := b.trans (hb.mono b.size)
theorem bt' {B : Nat} {w0 w w' : World} (b : Below B w0 w) (hB : B ≤ w.heap.size) (hb : Below w.heap.size w w') : Below B w0 w' := b.trans (hb.mono hB)
theorem b_psh (w : World) (o : Obj) : Below w.heap.size w (psh w o) := Below_psh (Below.refl _ w) (Nat.le_refl _)
end
end Sh
end Go.Proofs.YtongpnolikkknaaGreatDoor

namespace Go.Proofs.YtongpnolikkknaaGreatDoor
namespace Sh
open RowKit
section
variable {P : Program} {w : World} {d : Nat} {xs ys : Array Value} {f : Field} {fs : List Field} {r : Bool}
end
end Sh
end Go.Proofs.YtongpnolikkknaaGreatDoor

namespace Go.Proofs.YtongpnolikkknaaGreatDoor
namespace Sh
open RowKit
theorem son_size (l : List Int) : (strOfNums l).size = l.length := strOfNums_size l
theorem son_byL (s : ByteArray) : strOfNums (byL s) = s := by
  apply ByteArray.ext
  apply Array.toList_inj.1
  rw [strOfNums_data, byL, List.map_map]
  conv => rhs; rw [← List.map_id s.data.toList]
  apply List.map_congr_left
  intro x _
  simp
theorem byL_son {l : List Int} (h : ∀ x ∈ l, 0 ≤ x ∧ x ≤ 255) : byL (strOfNums l) = l := by
  unfold byL
  rw [strOfNums_data, List.map_map]
  conv => rhs; rw [← List.map_id l]
  apply List.map_congr_left
  intro x hx
  have := h x hx
  simp only [Function.comp_apply, id_eq, UInt8.toNat_ofNat']
  omega
theorem byL_inj {s t : ByteArray} (h : byL s = byL t) : s = t := by rw [← son_byL s, ← son_byL t, h]
theorem byL_app (s t : ByteArray) : byL (s ++ t) = byL s ++ byL t := by
  unfold byL
  rw [ByteArray.data_append, Array.toList_append, List.map_append]
theorem byL_take (s : ByteArray) (l h : Nat) : byL (s.extract l h) = ((byL s).take h).drop l := by
  unfold byL
  rw [ByteArray.data_extract, Array.toList_extract, List.drop_take]
  simp only [List.extract, List.map_take, List.map_drop]
theorem byL_nil : byL ⟨#[]⟩ = [] := rfl
section
variable {P : Program} {w : World} {Q : Value → World → Prop} {K : Value → M} {B : Nat}
theorem run_cvb {src dst e : TypeId} {z : Value} {n b : Nat} {l : List Int} {v : Value} (hs : slT P src e z n b) (he : P.underlying e = some (.int .u8)) (hd : isStr P dst = true) (hr : rdI .u8 w v l) :
    (convert src dst v).run P w = .ok (.string (strOfNums l)) w := by
  obtain ⟨i, h1, _⟩ := slT_info hs
  have hd' : P.underlying dst = some .string := by
    unfold isStr at hd
    cases hu : P.underlying dst with
    | none => simp [hu] at hd
    | some u => cases u <;> simp_all
  obtain ⟨p, c, rfl, h⟩ := hr
  rw [run_convert_bytes_string w src dst e p l.length c h1 he hd']
  cases p with
  | none =>
    have : l = [] := by
      cases l with
      | nil => rfl
      | cons x l => obtain ⟨a, ha, _⟩ := h 0 (by simp); cases ha
    subst this
    simp [Conv.bytesToString]
    rfl
  | some a =>
    have hl : (loadCells a l.length).run P w = .ok (l.map (Value.int .u8)).toArray w := by
      have := run_loadCells_list (P := P) w a (l.map (Value.int .u8)) (fun j v hj => by
        have hjl : j < l.length := by
          rcases Nat.lt_or_ge j l.length with h | h
          · exact h
          · simp [List.getElem?_eq_none (show (l.map (Value.int .u8)).length ≤ j by simpa using h)] at hj
        obtain ⟨a', e1, e2⟩ := h j hjl
        cases e1
        rw [e2]
        simp [List.getElem?_eq_getElem hjl] at hj
        rw [hj])
      simpa using this
    rw [run_bytesToString w a l.length c l hl, foldl_push_bytes]
    simp [strOfNums, ByteArray.empty, ByteArray.emptyWithCapacity]
    rfl
theorem cvb {src dst e : TypeId} {z : Value} {n b : Nat} {l : List Int} {v : Value} (hs : slT P src e z n b) (he : P.underlying e = some (.int .u8)) (hd : isStr P dst = true) (hr : rdI .u8 w v l)
    (k : K (.string (strOfNums l)) w Q) : smr P (convert src dst v) K w Q := ⟨_, run_cvb hs he hd hr, k⟩
/-- a row of whole numbers, as an argument or the call's own -/
def rdP (k : IntKind) (w : World) (v : Value) (l : List Int) : Prop :=
  (v = .slice none 0 0 ∧ l = []) ∨ ∃ a c, v = .slice (some a) l.length c ∧ ∀ i (h : i < l.length), w.cell? (a.add i) = some (.int k l[i])
theorem rdP_rd {k : IntKind} {w : World} {v : Value} {l : List Int} (h : rdP k w v l) : rdI k w v l := by
  rcases h with ⟨rfl, rfl⟩ | ⟨a, c, rfl, h⟩
  · exact ⟨none, 0, rfl, fun i h => by simp at h⟩
  · exact ⟨some a, c, rfl, fun i hi => ⟨a, rfl, h i hi⟩⟩
theorem ownI_rdP {B : Nat} {e : TypeId} {k : IntKind} {w : World} {v : Value} {l : List Int} (h : ownI B e k w v l) : rdP k w v l := by
  obtain ⟨h1, h2⟩ := h
  rcases h2 with ⟨rfl, h0⟩ | ⟨g, cap, cur, rfl, hg⟩
  · exact .inl ⟨rfl, List.length_eq_zero_iff.1 h0⟩
  · refine .inr ⟨_, _, rfl, fun i hi => ?_⟩
    rw [add_lit, Nat.zero_add]
    exact ownI_cell ⟨h1, .inr ⟨g, cap, cur, rfl, hg⟩⟩ i hi
/-- numbers behind a row of the call's own -/
theorem ap_rd {t ty e : TypeId} {k : IntKind} {b : Nat} (h : slT P t e (.int k 0) 1 b) {v u : Value} {l m : List Int} (hown : ownI B e k w v l) (hr : rdP k w u m)
    (hbytes : (l.length + m.length) * b ≤ 140737488355328) (h63 : l.length + m.length ≤ 140737488355328) (hB : B ≤ w.heap.size)
    (kk : ∀ v' w', ownI B e k w' v' (l ++ m) → w.grownBy w' v.ownBlock → K v' w' Q) : sm P (Builtin.append_ #[t, t] ty #[v, u]) K w Q := by
  obtain ⟨i, g1, g2, g3, g4, g5⟩ := slT_info h
  rcases hr with ⟨rfl, rfl⟩ | ⟨a, c, rfl, hr⟩
  · refine ⟨v, w, run_append_owned_none w B t ty e i 1 g1 g2 v l.length (l.map (Value.int k)) hown, kk v w (by rw [List.append_nil]; exact hown) (World.grownBy.refl w _)⟩
  · obtain ⟨v', w', hrun, ho, hg, _⟩ := run_append_own (P := P) w B t ty e i (.int k 0) 1 b g1 g2 g3 g4 g5 rfl (by decide) v l.length (l.map (Value.int k)) hown a m.length c (m.map (Value.int k)) (by simp) (by
        intro j u hj
        have hjl : j < m.length := by
          rcases Nat.lt_or_ge j m.length with h | h
          · exact h
          · simp [List.getElem?_eq_none (show (m.map (Value.int k)).length ≤ j by simpa using h)] at hj
        rw [hr j hjl]
        simp [List.getElem?_eq_getElem hjl] at hj
        rw [hj]) (by intro u hu; simp only [List.mem_map] at hu; obtain ⟨x, _, rfl⟩ := hu; rfl) (by unfold maxLen; omega) hbytes hB
    refine ⟨v', w', hrun, kk v' w' ?_ hg⟩
    unfold ownI
    rw [List.length_append, List.map_append]
    exact ho
theorem ownI_weak {B B' : Nat} {e : TypeId} {k : IntKind} {w : World} {v : Value} {l : List Int} (h : ownI B e k w v l) (hB : B' ≤ B) : ownI B' e k w v l := by
  obtain ⟨o1, o2⟩ := h
  refine ⟨o1, o2.imp id ?_⟩
  rintro ⟨g, cap, cur, q1, q2, q3⟩
  exact ⟨g, cap, cur, q1, by omega, q3⟩
/-- a new row of zeros -/
theorem mkI {t e : TypeId} {k j j' : IntKind} {b n : Nat} (h : slT P t e (.int k 0) 1 b) (hn : b * n ≤ 281474976710656) (hn2 : n ≤ 281474976710656) (hB : B ≤ w.heap.size)
    (kk : ∀ v' w', ownI B e k w' v' (List.replicate n 0) → Below w.heap.size w w' → K v' w' Q) : sm P (Instr.makeSlice t (.int j (n : Int)) (.int j' (n : Int))) K w Q := by
  obtain ⟨i, g1, g2, g3, g4, g5⟩ := slT_info h
  obtain ⟨w', hr, ho, hg⟩ := run_make_full (P := P) w w.heap.size t e i (.int k 0) 1 g1 g2 g3 g4 j j' n (by rw [g5]; exact hn) (by unfold maxLen; omega) (Nat.le_refl _)
  refine ⟨_, w', hr, kk _ _ ?_ ?_⟩
  · have e : (madeCells (Value.int k 0).cells (n * 1)).toList = (List.replicate n (0 : Int)).map (Value.int k) := by
      apply List.ext_getElem
      · simp [madeCells]
      · intro i h1 h2
        simp [madeCells, Value.cells, Nat.mod_one]
    rw [e] at ho
    refine ownI_weak (B := w.heap.size) ?_ hB
    unfold ownI
    rw [List.length_replicate]
    exact ho
  · exact (Below.refl _ _).grown hg (Nat.le_refl _) (fun k hk => by cases hk)
end
end Sh
end Go.Proofs.YtongpnolikkknaaGreatDoor

namespace Go.Proofs.YtongpnolikkknaaGreatDoor
namespace Sh
open RowKit ChangeShapes
/-! one block changed -/
/-- below the old end all is as it was but block p -/
structure Chg (p : Nat) (w w' : World) : Prop where
  os : w'.os = w.os
  tape : w'.tape = w.tape
  output : w'.output = w.output
  size : w.heap.size ≤ w'.heap.size
  block : ∀ k, k < w.heap.size → k ≠ p → w'.heap[k]? = w.heap[k]?
theorem Upd.chg {p : Nat} {w w' : World} (h : Upd p w w') : Chg p w w' := ⟨h.os, h.tape, h.output, by rw [h.size]; exact Nat.le_refl _, fun k _ hk => h.block k hk⟩
theorem Chg.refl (p : Nat) (w : World) : Chg p w w := ⟨rfl, rfl, rfl, Nat.le_refl _, fun _ _ _ => rfl⟩
theorem Chg.of_below {p : Nat} {w w' : World} (h : Below w.heap.size w w') : Chg p w w' := ⟨h.os, h.tape, h.output, h.size, fun k hk _ => h.block k hk⟩
theorem Chg.trans {p : Nat} {a b c : World} (h : Chg p a b) (k : Chg p b c) : Chg p a c :=
  ⟨k.os.trans h.os, k.tape.trans h.tape, k.output.trans h.output, Nat.le_trans h.size k.size, fun i hi hp => (k.block i (Nat.lt_of_lt_of_le hi h.size) hp).trans (h.block i hi hp)⟩
theorem Chg.below {p B : Nat} {w w' : World} (h : Chg p w w') (hB : B ≤ p) (hw : B ≤ w.heap.size) : Below B w w' := ⟨h.os, h.tape, h.output, h.size, fun k hk => h.block k (by omega) (by omega)⟩
theorem Chg.keep {p q : Nat} {w w' : World} {o : Obj} (h : Chg p w w') (hq : w.heap[q]? = some o) (hne : q ≠ p) : w'.heap[q]? = some o := by rw [h.block q (blk_lt hq) hne]; exact hq
theorem Chg.drw {p : Nat} {w w' : World} (h : Chg p w w') : Chg p w (drw w') := ⟨h.os, h.tape, h.output, h.size, h.block⟩
theorem Chg.cell {p : Nat} {w w' : World} {a : Addr} {v : Value} (h : Chg p w w') (hc : w.cell? a = some v) (hne : a.block ≠ p) : w'.cell? a = some v := by
  have := cell_lt hc
  unfold World.cell? at hc ⊢
  rw [h.block _ this hne]; exact hc
theorem bc {B p : Nat} {w0 w w' : World} (b : Below B w0 w) (hB : B ≤ p) (hw : B ≤ w.heap.size) (h : Chg p w w') : Below B w0 w' := b.trans (h.below hB hw)
section
variable {w : World} {Q : Value → World → Prop} {K : Value → M} {K0 : M} {B : Nat}
theorem rds2 {b : Nat} {c : Array Value} {t : TypeId} {fr : Nat × Nat} (h : w.heap[b]? = some (.cells c t fr)) : rds w ⟨b, 0, none⟩ c :=
  rds_of_blk h (fun j v hj => by simpa using hj)
theorem ldn_box {n b : Nat} {c : Array Value} {t : TypeId} {fr : Nat × Nat} (h : w.heap[b]? = some (.cells c t fr)) (hn : c.size = n) (k : K (.agg c) w Q) : ldn n (.pointer (some ⟨b, 0, none⟩)) K w Q :=
  ⟨_, c, rfl, hn, rds2 h, k⟩
/-- one cell of a block stored -/
theorem st_box {b o : Nat} {c : Array Value} {t : TypeId} {v : Value} (h : w.heap[b]? = some (.cells c t (0, 0))) (ho : o < c.size) (hv : v.oneCell' = true)
    (k : ∀ w', w'.heap[b]? = some (.cells (c.setIfInBounds o v) t (0, 0)) → Upd b w w' → K0 w' Q) : st (.pointer (some ⟨b, o, none⟩)) v K0 w Q := by
  rw [st_e]
  refine ⟨by rw [cell_of_blk h]; simp [ho], frozen_zero h, hv, k _ (blk_setCell h) ?_⟩
  exact ⟨rfl, rfl, rfl, size_setCell, fun k hk => blk_setCell_ne hk⟩
end
/-! slices of whatever -/
abbrev RepT (α : Type) := World → List Value → α → Prop
def cellsAt (w : World) (a : Addr) (es : List Value) : Prop := ∀ j v, es[j]? = some v → w.cell? (a.add j) = some v
/-- a slice, each element n cells, that reads as l -/
def rdS {α : Type} (n : Nat) (R : RepT α) (w : World) (v : Value) (l : List α) : Prop :=
  (v = .slice none 0 0 ∧ l = []) ∨ ∃ a c, v = .slice (some a) l.length c ∧ l.length ≤ c ∧ ∀ i (h : i < l.length), ∃ es, es.length = n ∧ cellsAt w (a.add (i * n)) es ∧ R w es l[i]
theorem cellsAt_below {w w' : World} {a : Addr} {es : List Value} (hb : Below w.heap.size w w') (h : cellsAt w a es) : cellsAt w' a es := fun j v hj => cell_below hb (h j v hj)
def Stable {α : Type} (R : RepT α) : Prop := ∀ (w w' : World) (es : List Value) (x : α), Below w.heap.size w w' → R w es x → R w' es x
theorem rdS_below {α : Type} {n : Nat} {R : RepT α} (hR : Stable R) {w w' : World} {v : Value} {l : List α} (hb : Below w.heap.size w w') (h : rdS n R w v l) : rdS n R w' v l := by
  rcases h with h | ⟨a, c, rfl, hcc, h⟩
  · exact .inl h
  · refine .inr ⟨a, c, rfl, hcc, fun i hi => ?_⟩
    obtain ⟨es, h1, h2, h3⟩ := h i hi
    exact ⟨es, h1, cellsAt_below hb h2, hR _ _ _ _ hb h3⟩
theorem rdS_len {α : Type} {n : Nat} {R : RepT α} {w : World} {v : Value} {l : List α} (h : rdS n R w v l) : ∃ p c, v = .slice p l.length c := by
  rcases h with ⟨rfl, rfl⟩ | ⟨a, c, rfl, hcc, h⟩
  · exact ⟨none, 0, rfl⟩
  · exact ⟨some a, c, rfl⟩
theorem lnl_S {α : Type} {n : Nat} {R : RepT α} {w w1 : World} {v : Value} {l : List α} {K : Value → M} {Q : Value → World → Prop} (h : rdS n R w v l) (kk : K (.int .i64 l.length) w1 Q) : lnl v K w1 Q := by
  obtain ⟨p, c, rfl⟩ := rdS_len h
  rw [lnl_e]; exact kk
/-- an element's place, the same in whatever world -/
theorem rdS_at {α : Type} {n : Nat} {R : RepT α} {w : World} {v : Value} {l : List α} (h : rdS n R w v l) {i : Nat} (hi : i < l.length) :
    ∃ ad es, es.length = n ∧ cellsAt w ad es ∧ R w es l[i] ∧ ∀ (k : IntKind) (K : Value → M) (w' : World) (Q : Value → World → Prop), ia n v (.int k (i : Int)) K w' Q = K (.pointer (some ad)) w' Q := by
  rcases h with ⟨rfl, rfl⟩ | ⟨a, c, rfl, hcc, h⟩
  · simp at hi
  · obtain ⟨es, h1, h2, h3⟩ := h i hi
    refine ⟨_, es, h1, h2, h3, fun k K w' Q => ?_⟩
    rw [ia_e, Int.toNat_natCast]
    apply propext
    constructor
    · rintro ⟨_, _, h⟩; exact h
    · intro h; exact ⟨by omega, by omega, h⟩
theorem ldn_at {n : Nat} {w : World} {a : Addr} {es : List Value} {K : Value → M} {Q : Value → World → Prop} (hc : cellsAt w a es) (hn : es.length = n) (k : K (.agg es.toArray) w Q) : ldn n (.pointer (some a)) K w Q :=
  ⟨a, es.toArray, rfl, by simpa using hn, fun j v hj => hc j v (by simpa using hj), k⟩
theorem add_zero' (a : Addr) : a.add 0 = a := rfl
section
variable {P : Program}
/-- whatever is read as a T is an α, told by R, of at most that bulk -/
def Opens (P : Program) (t : TypeId) (α : Type) (R : RepT α) (bulk : α → Nat) : Prop :=
  ∀ {H : Type} (enc : TypeId × Value → H) (w : World) (held : Bool) (fuel : Nat) (cs : List Value) (x : DataW H × List MemPlace),
    DataW.trod enc P w 0 (fun _ => true) held fuel t cs = some x → (x.1.weights P t).all (· ≤ reachBytes) = true → ∃ a, R w cs a ∧ bulk a ≤ Rows.uptoBulk x.1
theorem step_of {H : Type} {enc : TypeId × Value → H} {w : World} {sp : Nat → Bool} {held : Bool} {fuel : Nat} {t : TypeId} {cs : List Value} {x : DataW H × List MemPlace} (h : DataW.trod enc P w 0 sp held fuel t cs = some x) :
    ∃ n, fuel = n + 1 ∧ DataW.trod enc P w 0 sp held (n + 1) t cs = some x := by
  cases fuel with
  | zero => simp [DataW.trod] at h
  | succ n => exact ⟨n, rfl, h⟩
theorem mapM_all' {α β : Type} {g : α → Option β} : ∀ {l : List α} {ys : List β}, l.mapM g = some ys → ys.length = l.length ∧ ∀ (i : Nat) (h : i < l.length), ∃ y, g l[i] = some y ∧ ys[i]? = some y := by
  intro l
  induction l with
  | nil => intro ys h; simp at h; subst h; simp
  | cons a l ih =>
    intro ys h
    rw [List.mapM_cons] at h
    cases ha : g a with
    | none => simp [ha] at h
    | some y =>
      cases hl : l.mapM g with
      | none => simp [ha, hl] at h
      | some zs =>
        simp [ha, hl] at h
        subst h
        obtain ⟨h1, h2⟩ := ih hl
        refine ⟨by simp [h1], fun i hi => ?_⟩
        cases i with
        | zero => exact ⟨y, ha, rfl⟩
        | succ i => simpa using h2 i (by simpa using hi)
def iR (k : IntKind) : RepT Int := fun _ cs a => cs = [.int k a] ∧ (Lit.int k a).wf = true
def bR : RepT Bool := fun _ cs a => cs = [.bool a]
/-- a slice: its cell, what it reads as, its size -/
def lR {α : Type} (n b : Nat) (R : RepT α) : RepT (List α) := fun w cs l => ∃ v, cs = [v] ∧ rdS n R w v l ∧ l.length * b ≤ reachBytes
theorem bR_st : Stable bR := fun _ _ _ _ _ h => h
theorem op_int {t : TypeId} {k : IntKind} (hu : P.underlying t = some (.int k)) : Opens P t Int (iR k) (fun _ => 1) := by
  intro H enc w held fuel cs x h _
  obtain ⟨a, h1, h2, h3⟩ := DataW.trod_int hu h
  refine ⟨a, ⟨h1, h3⟩, ?_⟩
  cases x with | mk d p => cases d with
    | lit l => cases l <;> simp [Rows.uptoBulk]
    | _ => simp [Rows.uptoBulk]
theorem op_bool {t : TypeId} (hu : P.underlying t = some .bool) : Opens P t Bool bR (fun _ => 1) := by
  intro H enc w held fuel cs x h _
  obtain ⟨n, rfl, h⟩ := step_of h
  rw [DataW.trod_step] at h
  unfold DataW.trodStep at h
  simp only [hu] at h
  split at h <;> first | (cases h; done) | (rename_i heq _; cases heq; done) | skip
  rename_i b _ _
  cases h
  exact ⟨b, rfl, by simp [Rows.uptoBulk]⟩
theorem cells?_at {w : World} {a : Addr} {n : Nat} {es : List Value} (h : w.cells? 0 a n = some es) : es.length = n ∧ cellsAt w a es := by
  unfold World.cells? at h
  rw [if_pos (Nat.zero_le _)] at h
  obtain ⟨h1, h2⟩ := mapM_all' h
  rw [List.length_range] at h1
  refine ⟨h1, fun j v hj => ?_⟩
  have hlt : j < es.length := by
    rcases Nat.lt_or_ge j es.length with h | h
    · exact h
    · simp [List.getElem?_eq_none h] at hj
  obtain ⟨y, g1, g2⟩ := h2 j (by simpa [← h1] using hlt)
  rw [List.getElem_range] at g1
  rw [hj] at g2
  cases g2
  exact g1
theorem sum_le_all {H : Type} {α : Type} {b : α → Nat} : ∀ (l : List α) (ys : List (DataW H)), l.length = ys.length → (∀ (i : Nat) (h : i < l.length) (h' : i < ys.length), b l[i] ≤ Rows.uptoBulk ys[i]) → (l.map b).sum ≤ Rows.uptoBulkAll ys := by
  intro l
  induction l with
  | nil => intro ys _ _; simp
  | cons x l ih =>
    intro ys hl h
    cases ys with
    | nil => simp at hl
    | cons y ys =>
      have h0 := h 0 (by simp) (by simp)
      have := ih ys (by simpa using hl) (fun i h1 h2 => h (i + 1) (Nat.succ_lt_succ h1) (Nat.succ_lt_succ h2))
      simp only [List.map_cons, List.sum_cons, Rows.uptoBulkAll]
      simp at h0
      omega
theorem choose_list {α : Type} {n : Nat} {p : Nat → α → Prop} (h : ∀ i, i < n → ∃ a, p i a) : ∃ l : List α, l.length = n ∧ ∀ i (hi : i < l.length), p i l[i] := by
  induction n with
  | zero => exact ⟨[], rfl, fun i hi => by simp at hi⟩
  | succ n ih =>
    obtain ⟨l, h1, h2⟩ := ih (fun i hi => h i (by omega))
    obtain ⟨a, ha⟩ := h n (by omega)
    refine ⟨l ++ [a], by simp [h1], fun i hi => ?_⟩
    by_cases c : i < l.length
    · rw [List.getElem_append_left c]; exact h2 i c
    · have : i = l.length := by simp at hi; omega
      subst this
      simp [h1, ha]
theorem weights_all {H : Type} {e : TypeId} : ∀ (l : List (DataW H)), (DataW.weightsAll P e l).all (· ≤ reachBytes) = true → ∀ (i : Nat) (h : i < l.length), (l[i].weights P e).all (· ≤ reachBytes) = true := by
  intro l
  induction l with
  | nil => intro _ i h; simp at h
  | cons d l ih =>
    intro hw i h
    simp only [DataW.weightsAll, List.all_append, Bool.and_eq_true] at hw
    cases i with
    | zero => exact hw.1
    | succ i => exact ih hw.2 i (by simpa using h)
theorem op_slice {t e : TypeId} {n : Nat} {α : Type} {R : RepT α} {b : α → Nat} (hu : P.underlying t = some (.slice e)) (hn : P.cellsOf e = n) (he : Opens P e α R b) : Opens P t (List α) (lR n (P.bytesOf e) R) (fun l => (l.map b).sum + 1) := by
  intro H enc w held fuel cs x h hw
  subst hn
  obtain ⟨f, rfl, h⟩ := step_of h
  rw [DataW.trod_step] at h
  unfold DataW.trodStep at h
  simp only [hu] at h
  split at h <;> first | (cases h; done) | (rename_i heq _; cases heq; done) | skip
  · cases h; exact ⟨[], ⟨_, rfl, .inl ⟨rfl, rfl⟩, by simp⟩, by simp [Rows.uptoBulk]⟩
  · rename_i a len cap heq _
    cases heq
    simp only [Option.ite_none_right_eq_some, Option.bind_eq_some_iff, Option.map_eq_some_iff, if_true] at h
    obtain ⟨hc, ys, hy, zs, hz, rfl⟩ := h
    obtain ⟨hl, hall⟩ := mapM_all' hy
    rw [List.length_range] at hl
    simp only [DataW.weights, hu, List.all_cons, List.all_append, Bool.and_eq_true, decide_eq_true_eq] at hw
    have hwa := fun (i : Nat) (h : i < (ys.map (·.1)).length) => weights_all (ys.map (·.1)) hw.2.1 i h
    have key : ∀ i, i < len → ∃ q : α, ∃ y es, ys[i]? = some y ∧ es.length = P.cellsOf e ∧ cellsAt w (a.add (i * P.cellsOf e)) es ∧ R w es q ∧ b q ≤ Rows.uptoBulk y.1 := by
      intro i hi
      obtain ⟨y, g1, g2⟩ := hall i (by simpa using hi)
      rw [List.getElem_range] at g1
      cases hcs : w.cells? 0 (a.add (i * P.cellsOf e)) (P.cellsOf e) with
      | none => simp [hcs] at g1
      | some es =>
        simp [hcs] at g1
        obtain ⟨k1, k2⟩ := cells?_at hcs
        have hlt : i < ys.length := by omega
        rw [List.getElem?_eq_getElem hlt] at g2
        have hww := hwa i (by simpa using hlt)
        cases g2
        obtain ⟨q, k3, k4⟩ := he enc w held f es _ g1 (by simpa using hww)
        have g2 : ys[i]? = some ys[i] := List.getElem?_eq_getElem hlt
        exact ⟨q, _, es, g2, k1, k2, k3, k4⟩
    obtain ⟨l, hll, hlp⟩ := choose_list key
    refine ⟨l, ?_, ?_⟩
    · refine ⟨_, rfl, .inr ⟨a, cap, by rw [hll], by rw [hll]; exact hc.2.1, fun i hi => ?_⟩, ?_⟩
      · obtain ⟨y, es, _, k1, k2, k3, _⟩ := hlp i hi
        exact ⟨es, k1, k2, k3⟩
      · have h9 := hw.1
        rw [List.length_map, hl] at h9
        rw [hll]
        exact Nat.le_trans (Nat.mul_le_mul_right _ (Nat.le_add_right _ _)) h9
    · simp only [Rows.uptoBulk]
      have := sum_le_all (b := b) l (ys.map (·.1)) (by simp [hll, hl]) (fun i h1 h2 => by
        obtain ⟨y, es, k0, _, _, _, k4⟩ := hlp i h1
        have h3 : i < ys.length := by simpa using h2
        rw [List.getElem?_eq_getElem h3] at k0
        cases k0
        simpa using k4)
      omega
/-- a struct's fields, one after the other -/
def OpensF (P : Program) (fs : List Field) (α : Type) (R : RepT α) (bulk : α → Nat) : Prop :=
  ∀ {H : Type} (enc : TypeId × Value → H) (w : World) (held : Bool) (fuel : Nat) (cs : List Value) (ys : List (DataW H × List MemPlace)),
    (fs.mapM fun f => DataW.trod enc P w 0 (fun _ => true) held fuel f.type ((cs.drop f.offset).take (P.cellsOf f.type))) = some ys →
    (DataW.weightsEach P (fs.map (·.type)) (ys.map (·.1))).all (· ≤ reachBytes) = true → ∃ a, R w cs a ∧ bulk a ≤ Rows.uptoBulkAll (ys.map (·.1))
theorem opf_nil : OpensF P [] Unit (fun _ _ _ => True) (fun _ => 0) := by
  intro H enc w held fuel cs ys h _
  exact ⟨(), trivial, by simp⟩
theorem opf_cons {f : Field} {fs : List Field} {n : Nat} {α β : Type} {R : RepT α} {S : RepT β} {b : α → Nat} {c : β → Nat} (hn : P.cellsOf f.type = n) (he : Opens P f.type α R b) (hf : OpensF P fs β S c) :
    OpensF P (f :: fs) (α × β) (fun w cs x => R w ((cs.drop f.offset).take n) x.1 ∧ S w cs x.2) (fun x => b x.1 + c x.2) := by
  intro H enc w held fuel cs ys h hw
  rw [List.mapM_cons] at h
  cases h1 : DataW.trod enc P w 0 (fun _ => true) held fuel f.type ((cs.drop f.offset).take (P.cellsOf f.type)) with
  | none => simp [h1] at h
  | some y =>
    simp only [h1] at h
    cases h2 : (fs.mapM fun f => DataW.trod enc P w 0 (fun _ => true) held fuel f.type ((cs.drop f.offset).take (P.cellsOf f.type))) with
    | none => simp [h2] at h
    | some zs =>
      simp [h2] at h
      subst h
      simp only [List.map_cons, DataW.weightsEach, List.all_append, Bool.and_eq_true] at hw
      obtain ⟨a, k1, k2⟩ := he enc w held fuel _ y h1 hw.1
      obtain ⟨a', k3, k4⟩ := hf enc w held fuel cs zs h2 hw.2
      rw [hn] at k1
      exact ⟨(a, a'), ⟨k1, k3⟩, by simp only [List.map_cons, Rows.uptoBulkAll]; omega⟩
theorem op_struct {t : TypeId} {fs : Array Field} {n : Nat} {α : Type} {R : RepT α} {b : α → Nat} (hu : P.underlying t = some (.struct fs)) (hn : P.cellsOf t = n) (hf : OpensF P fs.toList α R b) : Opens P t α (fun w cs x => cs.length = n ∧ R w cs x) (fun x => b x + 1) := by
  intro H enc w held fuel cs x h hw
  obtain ⟨f, rfl, h⟩ := step_of h
  rw [DataW.trod_step] at h
  unfold DataW.trodStep at h
  simp only [hu, hn] at h
  simp only [Option.ite_none_right_eq_some, Option.map_eq_some_iff] at h
  obtain ⟨hc, ys, hy, rfl⟩ := h
  have hf' : (fs.toList.mapM fun f' => DataW.trod enc P w 0 (fun _ => true) held f f'.type ((cs.drop f'.offset).take (P.cellsOf f'.type))) = some ys := by simpa using hy
  simp only [DataW.weights, hu] at hw
  obtain ⟨a, k1, k2⟩ := hf enc w held f cs ys hf' hw
  exact ⟨a, ⟨hc, k1⟩, by simp only [Rows.uptoBulk]; omega⟩
theorem Opens.mono {t : TypeId} {α : Type} {β : Type} {R : RepT α} {S : RepT β} {b : α → Nat} {c : β → Nat} (h : Opens P t α R b) (f : ∀ w cs a, R w cs a → ∃ x, S w cs x ∧ c x ≤ b a) : Opens P t β S c := by
  intro H enc w held fuel cs x hx hw
  obtain ⟨a, h1, h2⟩ := h enc w held fuel cs x hx hw
  obtain ⟨y, h3, h4⟩ := f w cs a h1
  exact ⟨y, h3, Nat.le_trans h4 h2⟩
end
/-- an argument of one cell -/
theorem open_one {P : Program} {t : TypeId} {α : Type} {R : RepT α} {b : α → Nat} (h : Opens P t α R b) (hs : isSc P t = true) (h1 : ∀ w cs a, R w cs a → ∃ v, cs = [v])
    {H : Type} {enc : TypeId × Value → H} {W : World} {held : Bool} {r : Reach} {b0 : Nat} {v : Value} {d : DataW H} {ps : List MemPlace}
    (hv : Value.okWide P W r b0 t v) (hd : DataW.Trod enc P W 0 (fun _ => true) held t v d ps) (hw : (d.weights P t).all (· ≤ reachBytes) = true) : ∃ a, R W [v] a ∧ b a ≤ Rows.uptoBulk d := by
  obtain ⟨fuel, hf⟩ := hd
  obtain ⟨a, h2, h3⟩ := h enc W held fuel _ _ hf hw
  refine ⟨a, ?_, h3⟩
  suffices v.cells = #[v] by rw [this] at h2; exact h2
  cases v with
  | agg cs =>
    exfalso
    unfold isSc at hs
    unfold Value.okWide at hv
    cases hu : P.underlying t with
    | none => simp [hu] at hs
    | some u => cases u <;> simp [hu] at hs <;> simp [hu, Cell.okWide, Cell.ok] at hv
  | _ => rfl
end Sh
end Go.Proofs.YtongpnolikkknaaGreatDoor

namespace Go.Proofs.YtongpnolikkknaaGreatDoor
namespace Sh
open RowKit
theorem wrap_u8 {x : Int} : IntKind.u8.wrap x = x % 256 := by
  unfold IntKind.wrap
  simp [IntKind.signed, IntKind.bits]
theorem wrap_u64 {x : Int} : IntKind.u64.wrap x = x % 18446744073709551616 := by
  unfold IntKind.wrap
  simp [IntKind.signed, IntKind.bits]
theorem of_drw {B : Nat} {w w' : World} (h : Below B (drw w) w') : Below B w w' := ⟨h.os, h.tape, h.output, h.size, h.block⟩
section
variable {P : Program} {w : World} {Q : Value → World → Prop} {K : Value → M} {K0 : M} {B : Nat}
theorem smr_run {s : Sem Value} {v : Value} (h : s.run P w = .ok v w) : smr P s K w Q = K v w Q := by
  rw [smr_e, h]
  apply propext
  constructor
  · rintro ⟨v', h1, h2⟩; cases h1; exact h2
  · intro h2; exact ⟨v, rfl, h2⟩
theorem pn_eq {t : TypeId} {p : Option Addr} {x y : Operand} (h : P.underlying t = some (.pointer (P.pointee t))) :
    smr P (do eqGuard .eql t x y (.pointer p) (.pointer none); binOp .eql t (.pointer p) (.pointer none)) K w Q = K (.bool p.isNone) w Q :=
  smr_run (by simp [eqGuard, run_eql_pointer_nil w t p h])
/-- an element of a row of the call's own stored -/
theorem ia_st {e : TypeId} {k j : IntKind} {v : Value} {l : List Int} {i : Nat} {x : Int} (h : ownI B e k w v l) (hi : i < l.length)
    (kk : ∀ w', ownI B e k w' v (l.set i x) → (∃ g, v.ownBlock = some g ∧ B ≤ g ∧ g < w.heap.size ∧ Upd g w w') → K0 w' Q) : ia 1 v (.int j (i : Int)) (fun p => st p (.int k x) K0) w Q := by
  obtain ⟨h1, h2⟩ := h
  rcases h2 with ⟨rfl, h0⟩ | ⟨g, cap, cur, rfl, hg, hb, hn, hm, hs, ht⟩
  · omega
  · rw [ia_e]
    refine ⟨by omega, by omega, ?_⟩
    rw [Int.toNat_natCast, Nat.mul_one, add_lit, Nat.zero_add]
    simp only [Nat.mul_one] at hs ht
    refine st_box hb (by omega) rfl fun w' hw hu => ?_
    refine kk w' ?_ ⟨g, rfl, hg, blk_lt hb, hu⟩
    refine ⟨by simp, .inr ⟨g, cap, cur.setIfInBounds i (.int k x), by simp, hg, hw, by simpa using hn, hm, by simp [hs], ?_⟩⟩
    have hl : (cur.setIfInBounds i (.int k x)).toList = cur.toList.set i (.int k x) := by simp
    rw [hl, List.length_set, Nat.mul_one, List.take_set, ht, List.map_set]
/-- the same row behind a change of a block that isn't its own -/
theorem ownI_chg {e : TypeId} {k : IntKind} {v : Value} {l : List Int} {p : Nat} {w' : World} (h : ownI B e k w v l) (hc : Chg p w w') (hp : v.ownBlock ≠ some p) : ownI B e k w' v l := by
  obtain ⟨h1, h2⟩ := h
  refine ⟨h1, ?_⟩
  rcases h2 with h2 | ⟨g, cap, cur, rfl, hg, hb, rest⟩
  · exact .inl h2
  · refine .inr ⟨g, cap, cur, rfl, hg, hc.keep hb (fun e => hp (by rw [e]; rfl)), rest⟩
theorem or_run {a b : Nat} (ha : a < 18446744073709551616) (hb : b < 18446744073709551616) : bws .or .u64 (.int .u64 (a : Int)) (.int .u64 (b : Int)) K w Q = K (.int .u64 ((a ||| b : Nat) : Int)) w Q := by
  have e : ∀ (P : Program) (w : World), (Op.intBits .or .u64 (a : Int) (b : Int)).run P w = .ok (.int .u64 ((a ||| b : Nat) : Int)) w := fun P w => by
    rw [Go.intBits_or, bits_or_u64_nat a b ha hb]; rfl
  apply propext
  constructor
  · rintro ⟨a', b', v, h1, h2, h3, h4⟩
    cases h1; cases h2
    have := (h3 default w).symm.trans (e _ w)
    cases this
    exact h4
  · intro h; exact ⟨_, _, _, rfl, rfl, e, h⟩
/-- the first of a slice -/
theorem sll_S {α : Type} {n : Nat} {R : RepT α} {v : Value} {l : List α} {k : Nat} {j : IntKind} (h : rdS n R w v l) (hk : k ≤ l.length) (kk : ∀ v', rdS n R w v' (l.take k) → K v' w Q) : sll n v none (some (.int j (k : Int))) K w Q := by
  rcases h with ⟨rfl, rfl⟩ | ⟨a, c, rfl, hcc, h⟩
  · have : k = 0 := by simpa using hk
    subst this
    refine ⟨none, 0, 0, 0, 0, rfl, ⟨_, _, rfl, by omega, by omega, by omega⟩, rfl, ?_⟩
    exact kk _ (.inl ⟨by simp, by simp⟩)
  · refine ⟨some a, l.length, c, 0, k, rfl, ⟨_, _, rfl, by omega, by omega, by omega⟩, rfl, ?_⟩
    have ev : (if c = 0 then some a else (some a).map (·.add (0 * n))) = some a := by split <;> simp [add_zero']
    rw [ev, Nat.sub_zero, Nat.sub_zero]
    refine kk _ (.inr ⟨a, c, by rw [List.length_take, Nat.min_eq_left hk], by rw [List.length_take]; omega, fun i hi => ?_⟩)
    have hi' : i < l.length := by simp at hi; omega
    obtain ⟨es, h1, h2, h3⟩ := h i hi'
    exact ⟨es, h1, h2, by simpa using h3⟩
end
end Sh
end Go.Proofs.YtongpnolikkknaaGreatDoor

set_option maxRecDepth 20000
namespace Go.Proofs.YtongpnolikkknaaGreatDoor
open Sh RowKit

theorem q_cong {Q : Value → World → Prop} {w : World} {b c : Bool} (h : b = c) (hq : Q (.bool b) w) : Q (.bool c) w := h ▸ hq
theorem u36 : Tryz.prog.underlying 183 = some (.pointer (Tryz.prog.pointee 183)) := by kernel_rfl
theorem u5 : Tryz.prog.underlying 5 = some (.int .u8) := by kernel_rfl
/-- how many bytes a number has -/
def wd (k : Int) : Int := if 8 < (if k < 1 then 1 else k) then 8 else (if k < 1 then 1 else k)
theorem wd_bd (k : Int) : 1 ≤ wd k ∧ wd k ≤ 8 := by unfold wd; split <;> split <;> omega
theorem f163_s (k : Int) (w : World) (Q : Value → World → Prop) (h : Q (.int .i64 (wd k)) w) : f163 (.int .i64 k) w Q := by
  unfold f163
  simp only [↓reduceIte, ↓LL, LM, Value.cells, Nat.reduceAdd, Option.some.injEq, exists_eq_left', decide_true, decide_false, if_true, if_false, reduceCtorEq, cond_true, cond_false]
  exact h
/-- the low k bytes of a number, the highest first -/
def nb (n : Nat) : Nat → List Int
  | 0 => []
  | k + 1 => ((n / 256 ^ k % 256 : Nat) : Int) :: nb n k
theorem nb_len (n : Nat) : ∀ k, (nb n k).length = k
  | 0 => rfl
  | k + 1 => by simp [nb, nb_len n k]
theorem nb_bd (n : Nat) : ∀ k, ∀ x ∈ nb n k, 0 ≤ x ∧ x ≤ 255
  | 0, x, h => by simp [nb] at h
  | k + 1, x, h => by
    rcases List.mem_cons.1 h with rfl | h
    · omega
    · exact nb_bd n k x h
theorem pow8 (i : Nat) : (2 : Nat) ^ (8 * i) = 256 ^ i := by rw [Nat.pow_mul]
theorem shr_by (n i : Nat) (hi : i ≤ 8) : (n : Int).fdiv (2 ^ (min ((8 * (i : Int)).toNat) (IntKind.u64.bits))) = ((n / 256 ^ i : Nat) : Int) := by
  have e : min ((8 * (i : Int)).toNat) (IntKind.u64.bits) = 8 * i := by
    show min _ 64 = _
    omega
  rw [e, Int.fdiv_eq_ediv_of_nonneg _ (by exact_mod_cast Nat.zero_le _)]
  rw [← pow8]
  push_cast
  rfl

theorem num_loop (j1 : Value → M) {Q : Value → World → Prop} {B : Nat} {n : Nat} : ∀ (k m : Nat) (v : Value) (l : List Int) (w : World), k ≤ 8 → k < m → B ≤ w.heap.size → ownI B 5 .u8 w v l → l.length + k ≤ 140737488355328 →
    (∀ v' w', ownI B 5 .u8 w' v' (l ++ nb n k) → Below B w w' → j1 v' w' Q) → itr (fun _ _ _ => bot) (f147_b2 j1) m v (.int .u64 (n : Int)) (.int .i64 ((k : Int) - 1)) w Q := by
  intro k
  induction k with
  | zero =>
    intro m v l w hk hm hB ho hl kk
    obtain ⟨m, rfl⟩ : ∃ x, m = x + 1 := ⟨m - 1, by omega⟩
    show f147_b2 j1 _ _ _ _ w Q
    unfold f147_b2
    have : ¬ (0 : Int) ≤ ((0 : Nat) : Int) - 1 := by omega
    simp only [↓reduceIte, ↓LL, LM, Value.cells, Nat.reduceAdd, Option.some.injEq, exists_eq_left', decide_true, decide_false, if_true, if_false, reduceCtorEq, cond_true, cond_false, this]
    exact kk _ _ (by simpa [nb] using ho) (Below.refl _ _)
  | succ k ih =>
    intro m v l w hk hm hB ho hl kk
    obtain ⟨m, rfl⟩ : ∃ x, m = x + 1 := ⟨m - 1, by omega⟩
    show f147_b2 j1 _ _ _ _ w Q
    unfold f147_b2
    have e1 : ((k + 1 : Nat) : Int) - 1 = (k : Int) := by omega
    have e2 : IntKind.i64.wrap (8 * (k : Int)) = 8 * (k : Int) := w64 (by omega) (by omega)
    have e3 : IntKind.i64.wrap ((k : Int) - 1) = (k : Int) - 1 := w64 (by omega) (by omega)
    have h0 : (0 : Int) ≤ (k : Int) := by omega
    have h1 : (0 : Int) ≤ 8 * (k : Int) := by omega
    simp only [↓reduceIte, ↓LL, LM, Value.cells, Nat.reduceAdd, Option.some.injEq, exists_eq_left', decide_true, decide_false, if_true, if_false, reduceCtorEq, cond_true, cond_false, e1, e2, e3, h0, shr_e, h1, shr_by n k (by omega), true_and, wrap_u8]
    refine bsl1 slt42 rfl rfl ?_
    have hp0 := blk_psh_new (w := w) (o := .cells #[.int .u8 (((n / 256 ^ k : Nat) : Int) % 256)] 5)
    have ho1 := ownI_psh ho (.cells #[.int .u8 (((n / 256 ^ k : Nat) : Int) % 256)] 5)
    have hb1 := b_psh w (.cells #[.int .u8 (((n / 256 ^ k : Nat) : Int) % 256)] 5)
    refine ap_rd (m := [((n / 256 ^ k : Nat) : Int) % 256]) slt42 ho1 (.inr ⟨⟨w.heap.size, 0, none⟩, 1, rfl, fun i hi => ?_⟩) (by simp; omega) (by simp; omega) (by rw [size_psh]; omega) ?_
    · have : i = 0 := by simpa using hi
      subst this
      rw [add_lit, cell_psh_new]; rfl
    · intro v' w' ho' hg
      have hb2 : Below B w w' := Below_grown (bt' (Below.refl _ _) hB hb1) ho1 (by rw [size_psh]; omega) hg
      simp only [↓reduceIte, ↓LL, LM, Value.cells, Nat.reduceAdd, Option.some.injEq, exists_eq_left', decide_true, decide_false, if_true, if_false, reduceCtorEq, cond_true, cond_false, e3]
      refine ih m v' _ w' (by omega) (by omega) (Nat.le_trans hB hb2.size) ho' (by simp; omega) ?_
      intro v'' w'' ho'' hb3
      refine kk _ _ ?_ (hb2.trans hb3)
      simp only [nb]
      rw [List.append_assoc] at ho''
      simpa using ho''
theorem f147_s {B : Nat} (n : Nat) (k : Int) (v : Value) (l : List Int) (w : World) (Q : Value → World → Prop) (hB : B ≤ w.heap.size) (ho : ownI B 5 .u8 w v l) (hl : l.length + 8 ≤ 140737488355328)
    (h : ∀ v' w', ownI B 5 .u8 w' v' (l ++ nb n (wd k).toNat) → Below B w w' → Q v' w') : f147 v (.int .u64 (n : Int)) (.int .i64 k) w Q := by
  unfold f147
  simp only [↓cl_e]
  refine f163_s k _ _ ?_
  have bd := wd_bd k
  have e : IntKind.i64.wrap (wd k - 1) = (((wd k).toNat : Nat) : Int) - 1 := by rw [w64 (by omega) (by omega)]; omega
  simp only [↓reduceIte, ↓LL, LM, Value.cells, Nat.reduceAdd, Option.some.injEq, exists_eq_left', decide_true, decide_false, if_true, if_false, reduceCtorEq, cond_true, cond_false, e]
  refine ⟨_, num_loop _ (wd k).toNat _ v l w (by omega) (Nat.lt_succ_self _) hB ho (by omega) ?_⟩
  intro v' w' ho' hb
  unfold f147_j1
  rw [rt_e]
  exact h _ _ ho' hb
/-- a text as bytes -/
def sb (s : ByteArray) : List Int := ((min s.size 255 : Nat) : Int) :: (byL s).take 255
theorem bnd_hi {d m j : Nat} (h : j ≤ m) : bnd (some (.int .i64 (j : Int))) d m j := ⟨_, _, rfl, by omega, by omega, by omega⟩
theorem bnd_none {d m : Nat} : bnd none d m d := rfl
/-- a number is told whole -/
def fitB (n : Nat) (k : Int) : Bool := decide (n < 256 ^ (wd k).toNat)
theorem f164_s (n : Nat) (hn : n < 18446744073709551616) (k : Int) (w : World) (Q : Value → World → Prop) (h : Q (.bool (fitB n k)) w) : f164 (.int .u64 (n : Int)) (.int .i64 k) w Q := by
  unfold f164
  simp only [↓cl_e]
  refine f163_s k _ _ ?_
  have bd := wd_bd k
  have e1 : IntKind.i64.wrap (8 * wd k) = 8 * wd k := w64 (by omega) (by omega)
  have e2 : IntKind.i64.wrap (8 * wd k - 1) = 8 * wd k - 1 := w64 (by omega) (by omega)
  have h0 : (0 : Int) ≤ 8 * wd k - 1 := by omega
  have h1 : (0 : Int) ≤ 1 := by omega
  simp only [↓reduceIte, ↓LL, LM, Value.cells, Nat.reduceAdd, Option.some.injEq, exists_eq_left', decide_true, decide_false, if_true, if_false, reduceCtorEq, cond_true, cond_false, e1, e2, shr_e, h0, h1, true_and]
  have e3 : min (8 * wd k - 1).toNat IntKind.u64.bits = 8 * (wd k).toNat - 1 := by show min _ 64 = _; omega
  have e4 : min (1 : Int).toNat IntKind.u64.bits = 1 := rfl
  rw [e3, e4]
  have p1 : ∀ x y : Nat, (x : Int).fdiv (2 ^ y) = ((x / 2 ^ y : Nat) : Int) := fun x y => by
    rw [Int.fdiv_eq_ediv_of_nonneg _ (by exact_mod_cast Nat.zero_le _)]
    push_cast
    rfl
  rw [p1, p1, Nat.div_div_eq_div_mul, ← Nat.pow_add, show 8 * (wd k).toNat - 1 + 1 = 8 * (wd k).toNat from by omega, pow8]
  refine q_cong ?_ h
  unfold fitB
  rw [Bool.eq_iff_iff, decide_eq_true_eq, decide_eq_true_eq]
  have : n / 256 ^ (wd k).toNat = 0 ↔ n < 256 ^ (wd k).toNat := by
    rw [Nat.div_eq_zero_iff]
    have : 256 ^ (wd k).toNat ≠ 0 := Nat.pos_iff_ne_zero.1 (Nat.pow_pos (by decide))
    omega
  rw [← this]
  omega
end Go.Proofs.YtongpnolikkknaaGreatDoor

set_option maxRecDepth 20000
namespace Go.Proofs.YtongpnolikkknaaGreatDoor
open Sh RowKit

def nos : ByteArray := ⟨#[]⟩
def rC (s : ByteArray) (e : Int) : Array Value := #[.string s, .int .i64 e]
/-- what is taken of a reader: the text, whether it was there, what is left, the error -/
def take (s : ByteArray) (e : Int) (k : Nat) : ByteArray × Bool × ByteArray × Int :=
  if e = 0 then (if s.size < k then (nos, false, s, 2) else (s.extract 0 k, true, s.extract k s.size, 0)) else (nos, false, s, e)
theorem f162_s (p : Nat) (s : ByteArray) (e : Int) (k : Nat) (w : World) (Q : Value → World → Prop) (hp : w.heap[p]? = some (.cells (rC s e) 206 (0, 0)))
    (h : ∀ w', w'.heap[p]? = some (.cells (rC (take s e k).2.2.1 (take s e k).2.2.2) 206 (0, 0)) → Chg p w w' → Q (.tuple #[.string (take s e k).1, .bool (take s e k).2.1]) w') : f162 (.pointer (some ⟨p, 0, none⟩)) (.int .i64 (k : Int)) w Q := by
  unfold f162
  have c0 := cell_of_blk (n := 0) hp
  have c1 := cell_of_blk (n := 1) hp
  rw [pn_eq u36]
  simp only [↓reduceIte, ↓LL, LM, Value.cells, Nat.reduceAdd, Option.some.injEq, exists_eq_left', decide_true, decide_false, if_true, if_false, reduceCtorEq, cond_true, cond_false, Option.isNone_some, c0, c1, rC]
  by_cases he : e = 0
  · subst he
    by_cases c : s.size < k
    · have c' : (s.size : Int) < (k : Int) := by omega
      simp only [↓reduceIte, ↓LL, LM, Value.cells, Nat.reduceAdd, Option.some.injEq, exists_eq_left', decide_true, decide_false, if_true, if_false, reduceCtorEq, cond_true, cond_false, ne_eq, c', not_true_eq_false, c0, c1, rC]
      refine st_box hp (by simp [rC]) rfl fun w' h1 hu => ?_
      try simp only [↓reduceIte, ↓LL, LM, Value.cells, Nat.reduceAdd, Option.some.injEq, exists_eq_left', decide_true, decide_false, if_true, if_false, reduceCtorEq, cond_true, cond_false]
      have := h w'
      simp only [take, if_true, c] at this
      exact this h1 hu.chg
    · have c' : ¬ (s.size : Int) < (k : Int) := by omega
      simp only [↓reduceIte, ↓LL, LM, Value.cells, Nat.reduceAdd, Option.some.injEq, exists_eq_left', decide_true, decide_false, if_true, if_false, reduceCtorEq, cond_true, cond_false, ne_eq, c', not_true_eq_false, c0, c1, rC]
      refine ⟨s, 0, k, rfl, bnd_hi (by omega), bnd_none, ?_⟩
      simp only [↓reduceIte, ↓LL, LM, Value.cells, Nat.reduceAdd, Option.some.injEq, exists_eq_left', decide_true, decide_false, if_true, if_false, reduceCtorEq, cond_true, cond_false, c0, c1, rC]
      refine ⟨s, k, s.size, rfl, bnd_none, bnd_hi (by omega), ?_⟩
      try simp only [↓reduceIte, ↓LL, LM, Value.cells, Nat.reduceAdd, Option.some.injEq, exists_eq_left', decide_true, decide_false, if_true, if_false, reduceCtorEq, cond_true, cond_false]
      refine st_box hp (by simp [rC]) rfl fun w' h1 hu => ?_
      try simp only [↓reduceIte, ↓LL, LM, Value.cells, Nat.reduceAdd, Option.some.injEq, exists_eq_left', decide_true, decide_false, if_true, if_false, reduceCtorEq, cond_true, cond_false]
      have := h w'
      simp only [take, if_true, c, if_false] at this
      exact this h1 hu.chg
  · simp only [↓reduceIte, ↓LL, LM, Value.cells, Nat.reduceAdd, Option.some.injEq, exists_eq_left', decide_true, decide_false, if_true, if_false, reduceCtorEq, cond_true, cond_false, ne_eq, he, not_false_eq_true]
    have := h w
    simp only [take, he, if_false] at this
    exact this hp (Chg.refl _ _)
theorem max0 (k : Int) : (if k < 0 then (0 : Int) else k) = ((k.toNat : Nat) : Int) := by split <;> omega
theorem f139_s (p : Nat) (s : ByteArray) (e : Int) (k : Int) (w : World) (Q : Value → World → Prop) (hp : w.heap[p]? = some (.cells (rC s e) 206 (0, 0)))
    (h : ∀ w', w'.heap[p]? = some (.cells (rC (take s e k.toNat).2.2.1 (take s e k.toNat).2.2.2) 206 (0, 0)) → Chg p w w' → Q (.string (take s e k.toNat).1) w') : f139 (.pointer (some ⟨p, 0, none⟩)) (.int .i64 k) w Q := by
  unfold f139
  simp only [↓reduceIte, ↓LL, LM, Value.cells, Nat.reduceAdd, Option.some.injEq, exists_eq_left', decide_true, decide_false, if_true, if_false, reduceCtorEq, cond_true, cond_false, max0]
  refine f162_s p s e _ _ _ hp fun w' h1 hc => ?_
  try simp only [↓reduceIte, ↓LL, LM, Value.cells, Nat.reduceAdd, Option.some.injEq, exists_eq_left', decide_true, decide_false, if_true, if_false, reduceCtorEq, cond_true, cond_false]
  exact h w' h1 hc
/-- bytes as a number -/
def ofB : List Int → Nat → Nat
  | [], n => n
  | x :: r, n => ofB r (256 * n + x.toNat)
theorem or_add (n x : Nat) (hx : x < 256) : (256 * n) ||| x = 256 * n + x := by
  have := Nat.two_pow_add_eq_or_of_lt (i := 8) (b := x) (by simpa using hx) n
  simpa using this.symm
theorem rdn_loop (j1 : Value → M) {Q : Value → World → Prop} {v : Value} {w : World} {l : List Int} (hr : rdI .u8 w v l) (hb : ∀ x ∈ l, 0 ≤ x ∧ x ≤ 255) (hl : l.length ≤ 8) : ∀ (d m i n : Nat), i + d = l.length → d < m → n < 256 ^ i →
    j1 (.int .u64 (ofB (l.drop i) n : Nat)) w Q → itr (fun _ _ _ _ => bot) (f138_b2 j1) m (.int .u64 (n : Int)) v (.int .i64 l.length) (.int .i64 i) w Q := by
  intro d
  induction d with
  | zero =>
    intro m i n hi hm hn k
    obtain ⟨m, rfl⟩ : ∃ x, m = x + 1 := ⟨m - 1, by omega⟩
    show f138_b2 j1 _ _ _ _ _ w Q
    unfold f138_b2
    have : ¬ (i : Int) < l.length := by omega
    simp only [↓reduceIte, ↓LL, LM, Value.cells, Nat.reduceAdd, Option.some.injEq, exists_eq_left', decide_true, decide_false, if_true, if_false, reduceCtorEq, cond_true, cond_false, this]
    rw [List.drop_of_length_le (by omega)] at k
    exact k
  | succ d ih =>
    intro m i n hi hm hn k
    obtain ⟨m, rfl⟩ : ∃ x, m = x + 1 := ⟨m - 1, by omega⟩
    show f138_b2 j1 _ _ _ _ _ w Q
    unfold f138_b2
    have hlt : (i : Int) < l.length := by omega
    simp only [↓reduceIte, ↓LL, LM, Value.cells, Nat.reduceAdd, Option.some.injEq, exists_eq_left', decide_true, decide_false, if_true, if_false, reduceCtorEq, cond_true, cond_false, hlt]
    refine ia_ld hr (by omega) hlt fun hh => ?_
    have h1 : IntKind.i64.wrap ((i : Int) + 1) = ((i + 1 : Nat) : Int) := by rw [w64 (by omega) (by omega)]; rfl
    have hx := hb _ (List.getElem_mem hh)
    have e0 : (i : Int).toNat = i := rfl
    have hp : 256 ^ i ≤ 256 ^ 7 := Nat.pow_le_pow_right (by decide) (by omega)
    have e2 : IntKind.u64.wrap ((n : Int) * 2 ^ (min (8 : Int).toNat IntKind.u64.bits)) = ((256 * n : Nat) : Int) := by
      rw [show min (8 : Int).toNat IntKind.u64.bits = 8 from rfl, wrap_u64]
      omega
    have e3 : IntKind.u64.wrap l[(i : Int).toNat] = (((l[(i : Int).toNat]).toNat : Nat) : Int) := by rw [wrap_u64]; omega
    have h8 : (0 : Int) ≤ 8 := by decide
    simp only [↓reduceIte, ↓LL, LM, Value.cells, Nat.reduceAdd, Option.some.injEq, exists_eq_left', decide_true, decide_false, if_true, if_false, reduceCtorEq, cond_true, cond_false, shl_e, h8, true_and, e2, e3]
    rw [or_run (by omega) (by omega), or_add _ _ (by omega)]
    simp only [↓reduceIte, ↓LL, LM, Value.cells, Nat.reduceAdd, Option.some.injEq, exists_eq_left', decide_true, decide_false, if_true, if_false, reduceCtorEq, cond_true, cond_false, h1]
    refine ih m (i + 1) _ (by omega) (by omega) (by rw [Nat.pow_succ]; omega) ?_
    rw [List.drop_eq_getElem_cons (show i < l.length by omega)] at k
    exact k
theorem take_size (s : ByteArray) (e : Int) (k : Nat) : (take s e k).1.size ≤ k := by
  unfold take
  split
  · split
    · exact Nat.zero_le _
    · rw [ByteArray.size_extract]; omega
  · exact Nat.zero_le _
theorem f138_s (p : Nat) (s : ByteArray) (e : Int) (k : Int) (w : World) (Q : Value → World → Prop) (hp : w.heap[p]? = some (.cells (rC s e) 206 (0, 0)))
    (h : ∀ w', w'.heap[p]? = some (.cells (rC (take s e (wd k).toNat).2.2.1 (take s e (wd k).toNat).2.2.2) 206 (0, 0)) → Chg p w w' → Q (.int .u64 (ofB (byL (take s e (wd k).toNat).1) 0 : Nat)) w') : f138 (.pointer (some ⟨p, 0, none⟩)) (.int .i64 k) w Q := by
  unfold f138
  try simp only [↓reduceIte, ↓LL, LM, Value.cells, Nat.reduceAdd, Option.some.injEq, exists_eq_left', decide_true, decide_false, if_true, if_false, reduceCtorEq, cond_true, cond_false]
  refine f163_s k _ _ ?_
  have bd := wd_bd k
  rw [show wd k = (((wd k).toNat : Nat) : Int) from by omega]
  try simp only [↓reduceIte, ↓LL, LM, Value.cells, Nat.reduceAdd, Option.some.injEq, exists_eq_left', decide_true, decide_false, if_true, if_false, reduceCtorEq, cond_true, cond_false]
  refine f162_s p s e _ _ _ hp fun w' h1 hc => ?_
  try simp only [↓reduceIte, ↓LL, LM, Value.cells, Nat.reduceAdd, Option.some.injEq, exists_eq_left', decide_true, decide_false, if_true, if_false, reduceCtorEq, cond_true, cond_false]
  refine cvs st9 slt42 u5 fun v w1 hr hb => ?_
  refine lnl_rd hr ?_
  rw [jn_e]
  have hts := take_size s e (wd k).toNat
  refine ⟨_, rdn_loop (i := 0) _ hr (fun x hx => byL_nn hx) (by rw [byL_len]; omega) _ _ 0 (Nat.zero_add _) (Nat.lt_succ_self _) (by decide) ?_⟩
  unfold f138_j1
  rw [rt_e]
  exact h _ (stay hb h1) (hc.trans (.of_below hb))
theorem f141_s (p : Nat) (s : ByteArray) (e : Int) (w : World) (Q : Value → World → Prop) (hp : w.heap[p]? = some (.cells (rC s e) 206 (0, 0))) (h : Q (.int .i64 e) w) : f141 (.pointer (some ⟨p, 0, none⟩)) w Q := by
  unfold f141
  have c1 := cell_of_blk (n := 1) hp
  rw [pn_eq u36]
  simp only [↓reduceIte, ↓LL, LM, Value.cells, Nat.reduceAdd, Option.some.injEq, exists_eq_left', decide_true, decide_false, if_true, if_false, reduceCtorEq, cond_true, cond_false, Option.isNone_some, c1, rC]
  exact h
theorem f140_s (p : Nat) (s : ByteArray) (e : Int) (w : World) (Q : Value → World → Prop) (hp : w.heap[p]? = some (.cells (rC s e) 206 (0, 0))) (h : Q (.int .i64 s.size) w) : f140 (.pointer (some ⟨p, 0, none⟩)) w Q := by
  unfold f140
  have c0 := cell_of_blk (n := 0) hp
  rw [pn_eq u36]
  simp only [↓reduceIte, ↓LL, LM, Value.cells, Nat.reduceAdd, Option.some.injEq, exists_eq_left', decide_true, decide_false, if_true, if_false, reduceCtorEq, cond_true, cond_false, Option.isNone_some, c0, rC]
  exact h
theorem build52 (s : ByteArray) (w : World) : (Instr.build 206 #[(0, .string s)]).run Tryz.prog w = .ok (.agg (rC s 0)) w := by
  kernel_rfl
theorem f137_s (s : ByteArray) (w : World) (Q : Value → World → Prop) (h : ∀ p w', p = w.heap.size → w'.heap[p]? = some (.cells (rC s 0) 206 (0, 0)) → Below w.heap.size w w' → Q (.pointer (some ⟨p, 0, none⟩)) w') : f137 (.string s) w Q := by
  unfold f137
  rw [smr_run (build52 s w)]
  try simp only [↓reduceIte, ↓LL, LM, Value.cells, Nat.reduceAdd, Option.some.injEq, exists_eq_left', decide_true, decide_false, if_true, if_false, reduceCtorEq, cond_true, cond_false]
  exact h _ _ rfl blk_psh_new (b_psh _ _)
end Go.Proofs.YtongpnolikkknaaGreatDoor

namespace Go.Proofs.YtongpnolikkknaaGreatDoor
namespace Sh
open RowKit Go.MapKept
/-- a map's type, its keys' -/
structure KeyK (P : Program) (t kt et : TypeId) (d : TypeDesc) {α : Type} (kv : α → Value) : Prop where
  hm : P.underlying t = some (.map kt et)
  hd : P.underlying kt = some d
  key : ∀ a, IsKey d (kv a)
  inj : ∀ a b, kv a = kv b → a = b
def MapAt {α : Type} (kv : α → Value) (w : World) (b : Nat) (L : List (α × Value)) : Prop :=
  ∃ es clock, w.heap[b]? = some (.map es clock) ∧ Stamped es clock ∧ es.toList.map (fun e => (e.key, e.val)) = L.map (fun p => (kv p.1, p.2))
def put {α : Type} [DecidableEq α] (L : List (α × Value)) (k : α) (v : Value) : List (α × Value) :=
  if k ∈ L.map (·.1) then L.map (fun p => if p.1 = k then (k, v) else p) else L ++ [(k, v)]
def lk {α : Type} [DecidableEq α] (L : List (α × Value)) (k : α) : Option Value := (L.find? (fun p => decide (p.1 = k))).map (·.2)
theorem blk_sb {w : World} {b : Nat} {o o' : Obj} (h : w.heap[b]? = some o) : (sb w b o').heap[b]? = some o' := by simp [sb, blk_lt h]
theorem Upd_sb {w : World} {b : Nat} {o : Obj} : Upd b w (sb w b o) := ⟨rfl, rfl, rfl, by simp [sb], fun k hk => by simp [sb, Array.getElem?_setIfInBounds_ne (Ne.symm hk)]⟩
section
variable {α : Type} [DecidableEq α] {kv : α → Value} {P : Program} {t kt et : TypeId} {d : TypeDesc} {w : World} {b : Nat} {L : List (α × Value)} {K : Value → M} {K0 : M} {Q : Value → World → Prop}
omit [DecidableEq α] in
theorem MapAt.stay {w' : World} (h : MapAt kv w b L) (hb : w'.heap[b]? = w.heap[b]?) : MapAt kv w' b L := by
  obtain ⟨es, clock, h1, h2, h3⟩ := h
  exact ⟨es, clock, by rw [hb]; exact h1, h2, h3⟩
omit [DecidableEq α] in
theorem MapAt.lt (h : MapAt kv w b L) : b < w.heap.size := by obtain ⟨es, clock, h1, _⟩ := h; exact blk_lt h1
omit [DecidableEq α] in
theorem MapAt.below {w' : World} (h : MapAt kv w b L) (hb : Below w.heap.size w w') : MapAt kv w' b L := h.stay (hb.block b h.lt)
omit [DecidableEq α] in
theorem MapAt.chg {w' : World} {p : Nat} (h : MapAt kv w b L) (hc : Chg p w w') (hp : b ≠ p) : MapAt kv w' b L := h.stay (hc.block b h.lt hp)
omit [DecidableEq α] in
theorem MapAt.upd {w' : World} {p : Nat} (h : MapAt kv w b L) (hc : Upd p w w') (hp : b ≠ p) : MapAt kv w' b L := h.stay (hc.block b hp)
omit [DecidableEq α] in
theorem MapAt.nodup (h : MapAt kv w b L) : (L.map (·.1)).Nodup := by
  obtain ⟨es, clock, h1, ⟨_, _, h2⟩, h3⟩ := h
  have e : es.toList.map (·.key) = (L.map (·.1)).map kv := by
    have := congrArg (List.map Prod.fst) h3
    simpa [List.map_map, Function.comp_def] using this
  rw [e] at h2
  exact List.Pairwise.of_map kv (fun a b hab e => hab (by rw [e])) h2
omit [DecidableEq α] in
theorem isKeys {es : Array MapEntry} (KK : KeyK P t kt et d kv) (h : es.toList.map (fun e => (e.key, e.val)) = L.map (fun p => (kv p.1, p.2))) : ∀ x ∈ es.toList, IsKey d x.key := by
  intro x hx
  have : (x.key, x.val) ∈ L.map (fun p => (kv p.1, p.2)) := h ▸ List.mem_map.2 ⟨x, hx, rfl⟩
  obtain ⟨p, _, e⟩ := List.mem_map.1 this
  rw [← (Prod.mk.inj e).1]
  exact KK.key _
omit [DecidableEq α] in
theorem ent_at {es : Array MapEntry} (h : es.toList.map (fun e => (e.key, e.val)) = L.map (fun p => (kv p.1, p.2))) (i : Nat) :
    (es.toList[i]?).map (fun e => (e.key, e.val)) = (L[i]?).map (fun p => (kv p.1, p.2)) := by
  rw [← List.getElem?_map, ← List.getElem?_map, h]
theorem lk_none {k : α} : lk L k = none ↔ ∀ p ∈ L, p.1 ≠ k := by simp [lk]
theorem lk_cons {a k : α} {v : Value} : lk ((a, v) :: L) k = if a = k then some v else lk L k := by
  unfold lk
  by_cases h : a = k <;> simp [h]
theorem mem_lk (hn : (L.map (·.1)).Nodup) {k : α} {v : Value} (h : (k, v) ∈ L) : lk L k = some v := by
  induction L with
  | nil => cases h
  | cons p L ih =>
    obtain ⟨a, u⟩ := p
    rw [lk_cons]
    simp only [List.map_cons, List.nodup_cons] at hn
    rcases List.mem_cons.1 h with e | h
    · cases e; simp
    · have : a ≠ k := fun e => hn.1 (e ▸ List.mem_map.2 ⟨_, h, rfl⟩)
      rw [if_neg this]
      exact ih hn.2 h
/-- what a search finds -/
theorem found (KK : KeyK P t kt et d kv) {es : Array MapEntry} {clock : Nat} (hs : Stamped es clock) (h : es.toList.map (fun e => (e.key, e.val)) = L.map (fun p => (kv p.1, p.2))) (k : α) :
    (lk L k = none ∧ Instr.findNow d (kv k) es.toList 0 = some none ∧ ∀ x ∈ es.toList, x.key ≠ kv k) ∨
    ∃ (i : Nat) (e : MapEntry) (v : Value), lk L k = some v ∧ Instr.findNow d (kv k) es.toList 0 = some (some (i, v)) ∧ es[i]? = some e ∧ e.key = kv k ∧ e.val = v ∧ L[i]? = some (k, v) := by
  have hn : (L.map (·.1)).Nodup := MapAt.nodup (w := { (default : World) with heap := #[.map es clock] }) (b := 0) ⟨es, clock, rfl, hs, h⟩
  rcases findNow_spec (KK.key k) es.toList 0 (isKeys KK h) with ⟨h1, h2⟩ | ⟨j, e, h1, h2, h3⟩
  · refine .inl ⟨lk_none.2 fun p hp e => ?_, h1, h2⟩
    have : (kv p.1, p.2) ∈ es.toList.map (fun e => (e.key, e.val)) := h ▸ List.mem_map.2 ⟨p, hp, rfl⟩
    obtain ⟨x, hx, e2⟩ := List.mem_map.1 this
    exact h2 x hx (by rw [(Prod.mk.inj e2).1, e])
  · right
    have hj := ent_at h j
    rw [h2] at hj
    cases hL : L[j]? with
    | none => simp [hL] at hj
    | some p =>
      simp [hL] at hj
      have hk : p.1 = k := KK.inj _ _ (by rw [← hj.1, h3])
      have hm : (k, p.2) ∈ L := by rw [← hk]; exact List.mem_of_getElem? hL
      refine ⟨j, e, p.2, mem_lk hn hm, ?_, by simpa using h2, h3, hj.2, by rw [← hk]; exact hL⟩
      rw [h1, hj.2, Nat.zero_add]
theorem look_ok (KK : KeyK P t kt et d kv) (h : MapAt kv w b L) {z : Value} (hz : zeroIs P et z) (k : α) :
    smr P (Instr.lookup t (.map (some b)) (kv k) true) K w Q = K (.tuple #[(lk L k).getD z, .bool (lk L k).isSome]) w Q := by
  obtain ⟨es, clock, h1, h2, h3⟩ := h
  refine smr_run ?_
  rcases found KK h2 h3 k with ⟨e1, e2, _⟩ | ⟨i, e, v, e1, e2, _, _, _, _⟩
  · simp [Instr.lookup, run_underlying KK.hm, Go.MapKept.run_getObj_map h1, Go.MapKept.run_checkKey KK.hd (KK.key k), Go.MapKept.run_findKey KK.hd e2, e1, Result.andThen, zero_run hz]
  · simp [Instr.lookup, run_underlying KK.hm, Go.MapKept.run_getObj_map h1, Go.MapKept.run_checkKey KK.hd (KK.key k), Go.MapKept.run_findKey KK.hd e2, e1, Result.andThen]
theorem look_v (KK : KeyK P t kt et d kv) (h : MapAt kv w b L) {z : Value} (hz : zeroIs P et z) (k : α) :
    smr P (Instr.lookup t (.map (some b)) (kv k) false) K w Q = K ((lk L k).getD z) w Q := by
  obtain ⟨es, clock, h1, h2, h3⟩ := h
  refine smr_run ?_
  rcases found KK h2 h3 k with ⟨e1, e2, _⟩ | ⟨i, e, v, e1, e2, _, _, _, _⟩
  · simp [Instr.lookup, run_underlying KK.hm, Go.MapKept.run_getObj_map h1, Go.MapKept.run_checkKey KK.hd (KK.key k), Go.MapKept.run_findKey KK.hd e2, e1, Result.andThen, zero_run hz]
  · simp [Instr.lookup, run_underlying KK.hm, Go.MapKept.run_getObj_map h1, Go.MapKept.run_checkKey KK.hd (KK.key k), Go.MapKept.run_findKey KK.hd e2, e1, Result.andThen]
theorem put_at {i : Nat} {k : α} {u v : Value} (hn : (L.map (·.1)).Nodup) (h : L[i]? = some (k, u)) : put L k v = L.set i (k, v) := by
  unfold put
  rw [if_pos (List.mem_map.2 ⟨_, List.mem_of_getElem? h, rfl⟩)]
  apply List.ext_getElem?
  intro j
  rw [List.getElem?_map, List.getElem?_set]
  have hi : i < L.length := by
    rcases Nat.lt_or_ge i L.length with c | c
    · exact c
    · simp [List.getElem?_eq_none c] at h
  by_cases hij : i = j
  · subst hij
    rw [h]
    simp [hi]
  · simp only [hij, if_false]
    cases hj : L[j]? with
    | none => rfl
    | some p =>
      simp only [Option.map_some]
      have : p.1 ≠ k := by
        intro e
        have h1 : (L.map (·.1))[i]? = some k := by simp [h]
        have h2 : (L.map (·.1))[j]? = some k := by simp [hj, e]
        exact hij ((List.getElem?_inj (by simpa using hi) hn).1 (by rw [h1, h2]))
      simp [this]
/-- a key's value set -/
theorem upd_map (KK : KeyK P t kt et d kv) (h : MapAt kv w b L) (k : α) (v : Value) (kk : ∀ w', MapAt kv w' b (put L k v) → Upd b w w' → K0 w' Q) : smu P (Instr.mapUpdate t (.map (some b)) (kv k) v) K0 w Q := by
  have hn := h.nodup
  obtain ⟨es, clock, h1, h2, h3⟩ := h
  rcases found KK h2 h3 k with ⟨e1, e2, e3⟩ | ⟨i, e, u, e1, e2, e3, e4, e5, e6⟩
  · refine ⟨sb w b (.map (es.push { key := kv k, val := v, born := clock }) (clock + 1)), ?_, kk _ ⟨_, _, blk_sb h1, stamped_push h2 e3, ?_⟩ Upd_sb⟩
    · simp [Instr.mapUpdate, run_underlying KK.hm, Go.MapKept.run_getObj_map h1, Go.MapKept.run_checkKey KK.hd (KK.key k), Go.MapKept.run_findKey KK.hd e2, Go.MapKept.run_setObj_map _ h1, Result.andThen, sb]
    · have : ¬ k ∈ L.map (·.1) := by
        intro hm
        obtain ⟨p, hp, e⟩ := List.mem_map.1 hm
        exact lk_none.1 e1 p hp e
      simp [put, this, h3]
  · refine ⟨sb w b (.map (es.modify i fun x => { x with key := kv k, val := v }) clock), ?_, kk _ ⟨_, _, blk_sb h1, ?_, ?_⟩ Upd_sb⟩
    · simp [Instr.mapUpdate, run_underlying KK.hm, Go.MapKept.run_getObj_map h1, Go.MapKept.run_checkKey KK.hd (KK.key k), Go.MapKept.run_findKey KK.hd e2, e3, e4, Go.MapKept.run_keyThatStays (KK.key k), Go.MapKept.run_setObj_map _ h1, Result.andThen, sb]
    · exact stamped_modify h2 _ _ (fun _ _ => rfl) (fun e' _ he' => by rw [e3] at he'; cases he'; exact e4.symm)
    · rw [put_at hn e6]
      apply List.ext_getElem?
      intro j
      have hj := ent_at h3 j
      have hi := ent_at h3 i
      simp only [List.getElem?_map, Array.getElem?_toList, Array.getElem?_modify, List.getElem?_set] at hj ⊢
      by_cases hij : i = j
      · subst hij
        have hlt : i < L.length := by
          rcases Nat.lt_or_ge i L.length with c | c
          · exact c
          · simp [List.getElem?_eq_none c] at e6
        simp [e3, hlt]
      · simp only [hij, if_false]
        exact hj
omit [DecidableEq α] in
theorem map_eraseIdx' {β γ : Type} (f : β → γ) (l : List β) (i : Nat) : (l.eraseIdx i).map f = (l.map f).eraseIdx i := by
  rw [List.eraseIdx_eq_take_drop_succ, List.eraseIdx_eq_take_drop_succ, List.map_append, List.map_take, List.map_drop]
/-- all keys deleted -/
theorem clear_map {ty : TypeId} (KK : KeyK P t kt et d kv) (h : MapAt kv w b L) (kk : ∀ w', MapAt kv w' b [] → Upd b w w' → K (.tuple #[]) w' Q) : sm P (Builtin.clear_ #[t] ty #[.map (some b)]) K w Q := by
  obtain ⟨es, clock, h1, h2, h3⟩ := h
  refine ⟨.tuple #[], sb w b (.map #[] clock), ?_, kk _ ⟨_, _, blk_sb h1, stamped_empty _, rfl⟩ Upd_sb⟩
  simp [Builtin.clear_, run_underlying KK.hm, Go.MapKept.run_getObj_map h1, Go.MapKept.run_setObj_map _ h1, Result.andThen, sb]
omit [DecidableEq α] in
/-- a new map -/
theorem mm_map (kk : ∀ w', MapAt kv w' w.heap.size [] → Below w.heap.size w w' → K (.map (some w.heap.size)) w' Q) : mm K w Q :=
  kk _ ⟨#[], 0, blk_psh_new, stamped_empty _, rfl⟩ (b_psh _ _)
/-- an iterator over a map: what has not yet been told -/
def RangeAt {α : Type} (kv : α → Value) (w : World) (r b : Nat) (L rest : List (α × Value)) : Prop :=
  ∃ es clock since seen c0, w.heap[b]? = some (.map es clock) ∧ w.heap[r]? = some (.mapIter (some b) since seen c0) ∧ Stamped es clock ∧ (∀ x ∈ es.toList, x.born < since) ∧ since ≤ c0 ∧ since ≤ clock ∧
    es.toList.map (fun e => (e.key, e.val)) = L.map (fun p => (kv p.1, p.2)) ∧ (leftOf es seen).toList.map (fun e => (e.key, e.val)) = rest.map (fun p => (kv p.1, p.2))
omit [DecidableEq α] in
theorem RangeAt.map {r : Nat} {rest : List (α × Value)} (h : RangeAt kv w r b L rest) : MapAt kv w b L := by
  obtain ⟨es, clock, since, seen, c0, h1, h2, h3, h4, h5, h6, h7, h8⟩ := h
  exact ⟨es, clock, h1, h3, h7⟩
omit [DecidableEq α] in
theorem RangeAt.stay {r : Nat} {rest : List (α × Value)} {w' : World} (h : RangeAt kv w r b L rest) (hb : w'.heap[b]? = w.heap[b]?) (hr : w'.heap[r]? = w.heap[r]?) : RangeAt kv w' r b L rest := by
  obtain ⟨es, clock, since, seen, c0, h1, h2, h3⟩ := h
  exact ⟨es, clock, since, seen, c0, by rw [hb]; exact h1, by rw [hr]; exact h2, h3⟩
omit [DecidableEq α] in
theorem RangeAt.lt {r : Nat} {rest : List (α × Value)} (h : RangeAt kv w r b L rest) : b < w.heap.size ∧ r < w.heap.size := by
  obtain ⟨es, clock, since, seen, c0, h1, h2, _⟩ := h
  exact ⟨blk_lt h1, blk_lt h2⟩
omit [DecidableEq α] in
theorem RangeAt.below {r : Nat} {rest : List (α × Value)} {w' : World} (h : RangeAt kv w r b L rest) (hb : Below w.heap.size w w') : RangeAt kv w' r b L rest := h.stay (hb.block _ h.lt.1) (hb.block _ h.lt.2)
omit [DecidableEq α] in
theorem RangeAt.chg {r p : Nat} {rest : List (α × Value)} {w' : World} (h : RangeAt kv w r b L rest) (hb : Chg p w w') (h1 : b ≠ p) (h2 : r ≠ p) : RangeAt kv w' r b L rest := h.stay (hb.block _ h.lt.1 h1) (hb.block _ h.lt.2 h2)
omit [DecidableEq α] in
theorem range_map (KK : KeyK P t kt et d kv) (h : MapAt kv w b L) (kk : ∀ w', RangeAt kv w' w.heap.size b L L → Below w.heap.size w w' → K (.pointer (some ⟨w.heap.size, 0, none⟩)) w' Q) : sm P (Instr.range t (.map (some b))) K w Q := by
  obtain ⟨es, clock, h1, h2, h3⟩ := h
  have hlt := blk_lt h1
  refine ⟨.pointer (some ⟨w.heap.size, 0, none⟩), psh w (.mapIter (some b) clock #[] clock), ?_, kk _ ⟨es, clock, clock, #[], clock, ?_, blk_psh_new, h2, h2.1, Nat.le_refl _, Nat.le_refl _, h3, ?_⟩ (b_psh _ _)⟩
  · simp [Instr.range, run_underlying KK.hm, Go.MapKept.run_getObj_map h1, Result.andThen, newObj, psh, Sem.run]
  · rw [blk_psh_old hlt]; exact h1
  · have : leftOf es #[] = es := by simp [leftOf]
    rw [this]; exact h3
theorem filter_born : ∀ (l : List MapEntry), (l.map (·.born)).Nodup → ∀ (i : Nat) (hi : i < l.length), l.filter (fun x => !(x.born == l[i].born)) = l.eraseIdx i := by
  intro l
  induction l with
  | nil => intro _ i hi; simp at hi
  | cons a l ih =>
    intro hn i hi
    simp only [List.map_cons, List.nodup_cons] at hn
    cases i with
    | zero =>
      simp only [List.getElem_cons_zero, List.eraseIdx_cons_zero, List.filter_cons, beq_self_eq_true, Bool.not_true, Bool.false_eq_true, if_false]
      rw [List.filter_eq_self.2]
      intro x hx
      have : x.born ≠ a.born := fun e => hn.1 (e ▸ List.mem_map.2 ⟨x, hx, rfl⟩)
      simpa using this
    | succ i =>
      have hi' : i < l.length := by simpa using hi
      have : a.born ≠ l[i].born := fun e => hn.1 (e ▸ List.mem_map.2 ⟨_, List.getElem_mem hi', rfl⟩)
      simp only [List.getElem_cons_succ, List.eraseIdx_cons_succ, List.filter_cons]
      rw [if_pos (by simpa using this), ih hn.2 i hi']
end
end Sh
end Go.Proofs.YtongpnolikkknaaGreatDoor
