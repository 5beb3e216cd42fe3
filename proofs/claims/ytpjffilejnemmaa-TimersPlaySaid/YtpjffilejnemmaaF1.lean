/- Functions as predicate transformers, and that the machine does what they say, by program. -/
import Derived.Test.YtpjffilejnemmaaF0
set_option linter.unusedVariables false
set_option maxRecDepth 20000
set_option maxHeartbeats 4000000
namespace Go.Proofs.Ytpjffilejnemmaa
open Sh
attribute [local irreducible] wpL anyG act jn lo gdB amb kp smr nc fa ld ldn st stn ad su mu qu re lt le gt ge eqi nei bws shl shr cat eqs nes lts gts eqb neb nt pk cv al bx ex fld fldn lnl lns ia iaa ixs sls sll sla mif mnm mxm mm asrt sm smu cl cc cf ci cnd gd gdu
/- factotum/factotumlaw18.TimersOnce -/
def f4_j8 (self7 : Value → Value → Value → Value → Value → Value → Value → Value → Value → Value → Value → Value → M) (t0_4 t3_3 t4_3 t5_3 t6_3 t7_3 t8_2 t9_2 t10_2 t11_2 t12_1 t13_1 : Value) : M :=
  ad .i64 t13_1 (.int .i64 1) fun t50 =>
  self7 t0_4 t3_3 t4_3 t5_3 t6_3 t7_3 t8_2 t9_2 t10_2 t11_2 t12_1 t50
def f4_b7 (j6 : Value → Value → Value → Value → Value → Value → Value → Value → Value → Value → Value → M) (self7 : Value → Value → Value → Value → Value → Value → Value → Value → Value → Value → Value → Value → M) (t0_3 t3_2 t4_2 t5_2 t6_2 t7_2 t8_1 t9_1 t10_1 t11_1 t12 t13 : Value) : M :=
  lnl t8_1 fun t47 =>
  lt .i64 t13 t47 fun t48 =>
  cnd t48 (
    dr <|
    idv t8_1 fun t51 =>
    idv t13 fun t52 =>
    ia 1 t51 t52 fun t53 =>
    ld t53 fun t54 =>
    idv t4_2 fun t55 =>
    idv t11_1 fun t56 =>
    ia 1 t55 t56 fun t57 =>
    ld t57 fun t58 =>
    eqi .i64 t54 t58 fun t59 =>
    jn (fun (j8 : Value → Value → Value → Value → Value → Value → Value → Value → Value → Value → Value → Value → M) =>
      cnd t59 (
        ad .i64 t12 (.int .i64 1) fun t61 =>
        j8 t0_3 t3_2 t4_2 t5_2 t6_2 t7_2 t8_1 t9_1 t10_1 t11_1 t61 t13
        ) (
        j8 t0_3 t3_2 t4_2 t5_2 t6_2 t7_2 t8_1 t9_1 t10_1 t11_1 t12 t13
        )
      ) (f4_j8 self7)
    ) (
    j6 t0_3 t3_2 t4_2 t5_2 t6_2 t7_2 t8_1 t9_1 t10_1 t11_1 t12
    )
def f4_j9 (self5 : Value → Value → Value → Value → Value → Value → Value → Value → Value → Value → M) (t0_6 t3_5 t4_5 t5_5 t6_5 t7_5 t8_4 t9_4 t10_4 t11_4 : Value) : M :=
  ad .i64 t11_4 (.int .i64 1) fun t44 =>
  self5 t0_6 t3_5 t4_5 t5_5 t6_5 t7_5 t8_4 t9_4 t10_4 t44
def f4_j6 (self5 : Value → Value → Value → Value → Value → Value → Value → Value → Value → Value → M) (t0_5 t3_4 t4_4 t5_4 t6_4 t7_4 t8_3 t9_3 t10_3 t11_3 t12_2 : Value) : M :=
  dr <|
  idv t5_4 fun t62 =>
  idv t11_3 fun t63 =>
  ia 1 t62 t63 fun t64 =>
  ld t64 fun t65 =>
  fa 2 t7_4 fun t66 =>
  ld t66 fun t67 =>
  le .i64 t65 t67 fun t68 =>
  idv t68 fun t69 =>
  gd t69 true (idv t12_2) fun t70 =>
  gd t69 true (nei .i64 t70 (.int .i64 1)) fun t71 =>
  pk t69 t71 (.bool false) fun t72 =>
  idv t72 fun t73 =>
  gd t73 false (idv t5_4) fun t74 =>
  gd t73 false (idv t11_3) fun t75 =>
  gd t73 false (ia 1 t74 t75) fun t76 =>
  gd t73 false (ld t76) fun t77 =>
  gd t73 false (fa 2 t7_4) fun t78 =>
  gd t73 false (ld t78) fun t79 =>
  gd t73 false (gt .i64 t77 t79) fun t80 =>
  gd t73 false (idv t80) fun t81 =>
  gd t81 true (idv t12_2) fun t82 =>
  gd t81 true (nei .i64 t82 (.int .i64 0)) fun t83 =>
  gd t73 false (pk t81 t83 (.bool false)) fun t84 =>
  pk t73 (.bool true) t84 fun t85 =>
  cnd t85 (
    rt (.bool false)
    ) (
    eqi .i64 t12_2 (.int .i64 0) fun t87 =>
    jn (fun (j9 : Value → Value → Value → Value → Value → Value → Value → Value → Value → Value → M) =>
      cnd t87 (
        ia 1 t4_4 t11_3 fun t91 =>
        ld t91 fun t92 =>
        sm Try.prog (Instr.buildSlice 32 1 #[(0, t92)]) fun t93 =>
        sm Try.prog (Builtin.append_ #[32, 32] 32 #[t9_3, t93]) fun t94 =>
        ia 1 t5_4 t11_3 fun t98 =>
        ld t98 fun t99 =>
        sm Try.prog (Instr.buildSlice 36 1 #[(0, t99)]) fun t100 =>
        sm Try.prog (Builtin.append_ #[36, 36] 36 #[t10_3, t100]) fun t101 =>
        j9 t0_5 t3_4 t4_4 t5_4 t6_4 t7_4 t8_3 t94 t101 t11_3
        ) (
        j9 t0_5 t3_4 t4_4 t5_4 t6_4 t7_4 t8_3 t9_3 t10_3 t11_3
        )
      ) (f4_j9 self5)
    )
def f4_b5 (j4 : Value → Value → Value → Value → Value → Value → Value → M) (self5 : Value → Value → Value → Value → Value → Value → Value → Value → Value → Value → M) (t0_2 t3_1 t4_1 t5_1 t6_1 t7_1 t8 t9 t10 t11 : Value) : M :=
  lnl t4_1 fun t41 =>
  lt .i64 t11 t41 fun t42 =>
  cnd t42 (
    jn (fun (j6 : Value → Value → Value → Value → Value → Value → Value → Value → Value → Value → Value → M) =>
      lo (fun _ _ _ _ _ _ _ _ _ _ _ _ => bot) (f4_b7 j6) (fun l => l t0_2 t3_1 t4_1 t5_1 t6_1 t7_1 t8 t9 t10 t11 (.int .i64 0) (.int .i64 0))
      ) (f4_j6 self5)
    ) (
    j4 t0_2 t3_1 t4_1 t6_1 t8 t9 t10
    )
def f4_j4 (j3 : Value → Value → Value → Value → Value → M) (t0_7 t3_6 t4_6 t6_6 t8_5 t9_5 t10_5 : Value) : M :=
  lnl t8_5 fun t103 =>
  lnl t9_5 fun t105 =>
  ad .i64 t103 t105 fun t106 =>
  lnl t4_6 fun t108 =>
  nei .i64 t106 t108 fun t109 =>
  cnd t109 (
    rt (.bool false)
    ) (
    j3 t0_7 t3_6 t9_5 t10_5 t6_6
    )
def f4_j12 (self11 : Value → Value → Value → Value → Value → Value → Value → Value → Value → M) (t0_9 t3_8 t4_8 t5_7 t6_8 t7_7 t14_1 t15_1 t16_1 : Value) : M :=
  ad .i64 t16_1 (.int .i64 1) fun t117 =>
  self11 t0_9 t3_8 t4_8 t5_7 t6_8 t7_7 t14_1 t15_1 t117
def f4_b11 (j10 : Value → Value → Value → Value → Value → Value → M) (self11 : Value → Value → Value → Value → Value → Value → Value → Value → Value → M) (t0_8 t3_7 t4_7 t5_6 t6_7 t7_6 t14 t15 t16 : Value) : M :=
  lnl t4_7 fun t114 =>
  lt .i64 t16 t114 fun t115 =>
  cnd t115 (
    dr <|
    idv t4_7 fun t118 =>
    idv t16 fun t119 =>
    ia 1 t118 t119 fun t120 =>
    ld t120 fun t121 =>
    fa 1 t7_6 fun t122 =>
    ld t122 fun t123 =>
    nei .i64 t121 t123 fun t124 =>
    jn (fun (j12 : Value → Value → Value → Value → Value → Value → Value → Value → Value → M) =>
      cnd t124 (
        ia 1 t4_7 t16 fun t128 =>
        ld t128 fun t129 =>
        sm Try.prog (Instr.buildSlice 32 1 #[(0, t129)]) fun t130 =>
        sm Try.prog (Builtin.append_ #[32, 32] 32 #[t14, t130]) fun t131 =>
        ia 1 t5_6 t16 fun t135 =>
        ld t135 fun t136 =>
        sm Try.prog (Instr.buildSlice 36 1 #[(0, t136)]) fun t137 =>
        sm Try.prog (Builtin.append_ #[36, 36] 36 #[t15, t137]) fun t138 =>
        j12 t0_8 t3_7 t4_7 t5_6 t6_7 t7_6 t131 t138 t16
        ) (
        j12 t0_8 t3_7 t4_7 t5_6 t6_7 t7_6 t14 t15 t16
        )
      ) (f4_j12 self11)
    ) (
    j10 t0_8 t3_7 t6_7 t7_6 t14 t15
    )
def f4_j10 (j3 : Value → Value → Value → Value → Value → M) (t0_10 t3_9 t6_9 t7_8 t14_2 t15_2 : Value) : M :=
  ldn 3 t7_8 fun t141 =>
  cl (f14 t141) fun t142 =>
  eqi .i64 t142 (.int .i64 0) fun t143 =>
  cnd t143 (
    fa 1 t7_8 fun t145 =>
    ld t145 fun t146 =>
    fa 2 t7_8 fun t147 =>
    ld t147 fun t148 =>
    cl (f10 t3_9 t146 t148) fun t149 =>
    fa 1 t7_8 fun t151 =>
    ld t151 fun t152 =>
    sm Try.prog (Instr.buildSlice 32 1 #[(0, t152)]) fun t153 =>
    sm Try.prog (Builtin.append_ #[32, 32] 32 #[t14_2, t153]) fun t154 =>
    fa 2 t7_8 fun t156 =>
    ld t156 fun t157 =>
    sm Try.prog (Instr.buildSlice 36 1 #[(0, t157)]) fun t158 =>
    sm Try.prog (Builtin.append_ #[36, 36] 36 #[t15_2, t158]) fun t159 =>
    j3 t0_10 t3_9 t154 t159 t6_9
    ) (
    fa 1 t7_8 fun t161 =>
    ld t161 fun t162 =>
    cl (f15 t3_9 t162) fun t163 =>
    j3 t0_10 t3_9 t14_2 t15_2 t6_9
    )
def f4_j3 (self2 : Value → Value → Value → Value → Value → M) (t0_11 t3_10 t4_9 t5_8 t6_10 : Value) : M :=
  ad .i64 t6_10 (.int .i64 1) fun t27 =>
  self2 t0_11 t3_10 t4_9 t5_8 t27
def f4_b2 (j1 : Value → Value → M) (self2 : Value → Value → Value → Value → Value → M) (t0_1 t3 t4 t5 t6 : Value) : M :=
  lnl t0_1 fun t24 =>
  lt .i64 t6 t24 fun t25 =>
  cnd t25 (
    jn (fun (j3 : Value → Value → Value → Value → Value → M) =>
      ia 3 t0_1 t6 fun t30 =>
      ldn 3 t30 fun t31 =>
      al 28 #[(.int .i64 0), (.int .i64 0), (.int .i64 0)] fun t7 =>
      stn 3 t7 t31 <|
      ldn 3 t7 fun t32 =>
      cl (f14 t32) fun t33 =>
      eqi .i64 t33 (.int .i64 2) fun t34 =>
      cnd t34 (
        fa 2 t7 fun t36 =>
        ld t36 fun t37 =>
        cl (f12 t3 t37) fun t38 =>
        jn (fun (j4 : Value → Value → Value → Value → Value → Value → Value → M) =>
          lo (fun _ _ _ _ _ _ _ _ _ _ => bot) (f4_b5 j4) (fun l => l t0_1 t3 t4 t5 t6 t7 t38 (.slice none 0 0) (.slice none 0 0) (.int .i64 0))
          ) (f4_j4 j3)
        ) (
        jn (fun (j10 : Value → Value → Value → Value → Value → Value → M) =>
          lo (fun _ _ _ _ _ _ _ _ _ => bot) (f4_b11 j10) (fun l => l t0_1 t3 t4 t5 t6 t7 (.slice none 0 0) (.slice none 0 0) (.int .i64 0))
          ) (f4_j10 j3)
        )
      ) (f4_j3 self2)
    ) (
    j1 t3 t4
    )
def f4_j1 (t3_11 t4_10 : Value) : M :=
  cl (f13 t3_11) fun t165 =>
  lnl t4_10 fun t167 =>
  eqi .i64 t165 t167 fun t168 =>
  rt t168
def f4 (t0 : Value) : M :=
  cl (f7) fun t17 =>
  nt t17 fun t18 =>
  cnd t18 (
    rt (.bool false)
    ) (
    cl (f8 t0) fun t20 =>
    cl (f9) fun t21 =>
    jn (fun (j1 : Value → Value → M) =>
      lo (fun _ _ _ _ _ => bot) (f4_b2 j1) (fun l => l t20 t21 (.slice none 0 0) (.slice none 0 0) (.int .i64 0))
      ) (f4_j1)
    )
theorem s4 (t0 : Value) (w : World) (Q : Value → World → Prop) (h : f4 t0 w Q) : Calls Try.prog 4 #[t0] w (Rt Q) := by
  refine calls_of (l := [t0]) Try.func4 rfl Try.ntmps4 (Nat.le_of_ble_eq_true rfl) ?_
  unfold f4 at h
  refine wp_seq ?_
  refine L_region ?_
  refine L_as ?_
  refine L_nil ?_
  refine E_n ?_
  refine wp_seq ?_
  refine wp_seq ?_
  refine L_region ?_
  refine L_u (N_cl Try.func7 rfl nn7 (fun w Q h => s7 w Q h) h) ?_
  intro v w h
  refine L_u (P_nt h) ?_
  intro v w h
  refine L_nil ?_
  refine E_n ?_
  refine C_cnd h (fun h => ?_) (fun h => ?_)
  · refine wp_seq ?_
    refine L_region ?_
    refine L_as ?_
    refine L_nil ?_
    refine E_n ?_
    refine C_ret ?_
    show bodyPost Try.prog Try.f4 (Rt Q) .ret _ _
    exact post_tmps (ts := [2]) (.inr rfl) rfl h
  · refine C_skip ?_
    refine E_n ?_
    refine wp_seq ?_
    refine L_region ?_
    refine L_mv ?_
    refine L_u (N_cl Try.func8 rfl nn8 (fun w Q h => s8 _ w Q h) h) ?_
    intro v w h
    refine L_as ?_
    refine L_nil ?_
    refine E_n ?_
    refine wp_seq ?_
    refine L_region ?_
    refine L_u (N_cl Try.func9 rfl nn9 (fun w Q h => s9 w Q h) h) ?_
    intro v w h
    refine L_as ?_
    refine L_nil ?_
    refine E_n ?_
    refine wp_seq ?_
    refine L_region ?_
    refine L_as ?_
    refine L_nil ?_
    refine E_n ?_
    refine wp_seq ?_
    refine L_region ?_
    refine L_as ?_
    refine L_nil ?_
    refine E_n ?_
    refine wp_seq ?_
    refine wp_seq ?_
    refine L_region ?_
    refine L_as ?_
    refine L_nil ?_
    refine E_n ?_
    refine C_join (fun (k : Value → Value → M) (ρ : Nat → Value) => k (ρ 3) (ρ 4)) h (fun j1 J1 h => ?_) (fun ρ w h => ?_)
    · refine C_blk ?_
      refine C_lo (fun (l : Value → Value → Value → Value → Value → M) (ρ : Nat → Value) => l (ρ 0) (ρ 3) (ρ 4) (ρ 5) (ρ 6)) h (fun ρ w h => h) (fun nx self2 L2 ρ w h => ?_)
      unfold f4_b2 at h
      refine wp_seq ?_
      refine wp_seq ?_
      refine L_region ?_
      refine L_mv ?_
      refine L_mv ?_
      refine L_u (P_lnl is22 h) ?_
      intro v w h
      refine L_u (P_lt h) ?_
      intro v w h
      refine L_nil ?_
      refine E_n ?_
      refine C_cnd h (fun h => ?_) (fun h => ?_)
      · refine C_skip ?_
        refine E_n ?_
        refine wp_seq ?_
        refine C_join (fun (k : Value → Value → Value → Value → Value → M) (ρ : Nat → Value) => k (ρ 0) (ρ 3) (ρ 4) (ρ 5) (ρ 6)) h (fun j3 J3 h => ?_) (fun ρ w h => ?_)
        · refine C_blk ?_
          refine wp_seq ?_
          refine L_region ?_
          refine L_mv ?_
          refine L_mv ?_
          refine L_u (P_ia se22 h) ?_
          intro v w h
          refine L_u (P_ldn ag28 h) ?_
          intro v w h
          refine L_u (P_al ze28 rfl h) ?_
          intro v w h
          refine L_u (P_stn ag28 h) ?_
          intro w h
          refine L_nil ?_
          refine E_n ?_
          refine wp_seq ?_
          refine wp_seq ?_
          refine L_region ?_
          refine L_u (P_ldn ag28 h) ?_
          intro v w h
          refine L_u (N_cl Try.func14 rfl nn14 (fun w Q h => s14 _ w Q h) h) ?_
          intro v w h
          refine L_u (P_eqi h) ?_
          intro v w h
          refine L_nil ?_
          refine E_n ?_
          refine C_cnd h (fun h => ?_) (fun h => ?_)
          · refine wp_seq ?_
            refine L_region ?_
            refine L_mv ?_
            refine L_u (P_fa fo28_2 h) ?_
            intro v w h
            refine L_u (P_ld sc2 h) ?_
            intro v w h
            refine L_u (N_cl Try.func12 rfl nn12 (fun w Q h => s12 _ _ w Q h) h) ?_
            intro v w h
            refine L_as ?_
            refine L_nil ?_
            refine E_n ?_
            refine wp_seq ?_
            refine L_region ?_
            refine L_as ?_
            refine L_nil ?_
            refine E_n ?_
            refine wp_seq ?_
            refine L_region ?_
            refine L_as ?_
            refine L_nil ?_
            refine E_n ?_
            refine wp_seq ?_
            refine wp_seq ?_
            refine L_region ?_
            refine L_as ?_
            refine L_nil ?_
            refine E_n ?_
            refine C_join (fun (k : Value → Value → Value → Value → Value → Value → Value → M) (ρ : Nat → Value) => k (ρ 0) (ρ 3) (ρ 4) (ρ 6) (ρ 8) (ρ 9) (ρ 10)) h (fun j4 J4 h => ?_) (fun ρ w h => ?_)
            · refine C_blk ?_
              refine C_lo (fun (l : Value → Value → Value → Value → Value → Value → Value → Value → Value → Value → M) (ρ : Nat → Value) => l (ρ 0) (ρ 3) (ρ 4) (ρ 5) (ρ 6) (ρ 7) (ρ 8) (ρ 9) (ρ 10) (ρ 11)) h (fun ρ w h => h) (fun nx self5 L5 ρ w h => ?_)
              unfold f4_b5 at h
              refine wp_seq ?_
              refine wp_seq ?_
              refine L_region ?_
              refine L_mv ?_
              refine L_mv ?_
              refine L_u (P_lnl is32 h) ?_
              intro v w h
              refine L_u (P_lt h) ?_
              intro v w h
              refine L_nil ?_
              refine E_n ?_
              refine C_cnd h (fun h => ?_) (fun h => ?_)
              · refine C_skip ?_
                refine E_n ?_
                refine wp_seq ?_
                refine C_blk ?_
                refine wp_seq ?_
                refine L_region ?_
                refine L_as ?_
                refine L_nil ?_
                refine E_n ?_
                refine wp_seq ?_
                refine wp_seq ?_
                refine L_region ?_
                refine L_as ?_
                refine L_nil ?_
                refine E_n ?_
                refine C_join (fun (k : Value → Value → Value → Value → Value → Value → Value → Value → Value → Value → Value → M) (ρ : Nat → Value) => k (ρ 0) (ρ 3) (ρ 4) (ρ 5) (ρ 6) (ρ 7) (ρ 8) (ρ 9) (ρ 10) (ρ 11) (ρ 12)) h (fun j6 J6 h => ?_) (fun ρ w h => ?_)
                · refine C_blk ?_
                  refine C_lo (fun (l : Value → Value → Value → Value → Value → Value → Value → Value → Value → Value → Value → Value → M) (ρ : Nat → Value) => l (ρ 0) (ρ 3) (ρ 4) (ρ 5) (ρ 6) (ρ 7) (ρ 8) (ρ 9) (ρ 10) (ρ 11) (ρ 12) (ρ 13)) h (fun ρ w h => h) (fun nx self7 L7 ρ w h => ?_)
                  unfold f4_b7 at h
                  refine wp_seq ?_
                  refine wp_seq ?_
                  refine L_region ?_
                  refine L_mv ?_
                  refine L_mv ?_
                  refine L_u (P_lnl is32 h) ?_
                  intro v w h
                  refine L_u (P_lt h) ?_
                  intro v w h
                  refine L_nil ?_
                  refine E_n ?_
                  refine C_cnd h (fun h => ?_) (fun h => ?_)
                  · refine C_skip ?_
                    refine E_n ?_
                    refine wp_seq ?_
                    refine C_blk ?_
                    refine wp_seq ?_
                    refine D_region (by decide +kernel) 9 rfl ?_
                    replace h := dr_e h
                    refine G_p 0 rfl (by decide +kernel) (Y_mv h) ?_
                    intro v h
                    refine G_p 1 rfl (by decide +kernel) (Y_mv h) ?_
                    intro v h
                    refine G_p 2 rfl (by decide +kernel) (Y_ia se32 h) ?_
                    intro v h
                    refine G_r _ 3 rfl (by decide +kernel) (R_ld sc3 h) ?_
                    intro v h
                    refine G_p 4 rfl (by decide +kernel) (Y_mv h) ?_
                    intro v h
                    refine G_p 5 rfl (by decide +kernel) (Y_mv h) ?_
                    intro v h
                    refine G_p 6 rfl (by decide +kernel) (Y_ia se32 h) ?_
                    intro v h
                    refine G_r _ 7 rfl (by decide +kernel) (R_ld sc3 h) ?_
                    intro v h
                    refine G_p 8 rfl (by decide +kernel) (Y_eqi h) ?_
                    intro v h
                    refine G_done (by decide +kernel) ?_
                    refine E_n ?_
                    refine C_join (fun (k : Value → Value → Value → Value → Value → Value → Value → Value → Value → Value → Value → Value → M) (ρ : Nat → Value) => k (ρ 0) (ρ 3) (ρ 4) (ρ 5) (ρ 6) (ρ 7) (ρ 8) (ρ 9) (ρ 10) (ρ 11) (ρ 12) (ρ 13)) h (fun j8 J8 h => ?_) (fun ρ w h => ?_)
                    · refine C_cnd h (fun h => ?_) (fun h => ?_)
                      · refine L_region ?_
                        refine L_mv ?_
                        refine L_u (P_ad h) ?_
                        intro v w h
                        refine L_as ?_
                        refine L_nil ?_
                        exact J8 _ _ h
                      · refine C_skip ?_
                        exact J8 _ _ h
                    · unfold f4_j8 at h
                      refine B_n ?_
                      refine E_n ?_
                      refine L_region ?_
                      refine L_mv ?_
                      refine L_u (P_ad h) ?_
                      intro v w h
                      refine L_as ?_
                      refine L_nil ?_
                      refine E_n ?_
                      exact L7 _ _ h
                  · refine C_exit ?_
                    refine E_x ?_
                    refine E_x ?_
                    refine B_x ?_
                    exact J6 _ _ h
                · unfold f4_j6 at h
                  refine E_n ?_
                  refine wp_seq ?_
                  refine wp_seq ?_
                  refine D_region (by decide +kernel) 24 rfl ?_
                  replace h := dr_e h
                  refine G_p 0 rfl (by decide +kernel) (Y_mv h) ?_
                  intro v h
                  refine G_p 1 rfl (by decide +kernel) (Y_mv h) ?_
                  intro v h
                  refine G_p 2 rfl (by decide +kernel) (Y_ia se36 h) ?_
                  intro v h
                  refine G_r _ 3 rfl (by decide +kernel) (R_ld sc2 h) ?_
                  intro v h
                  refine G_p 4 rfl (by decide +kernel) (Y_fa fo28_2 h) ?_
                  intro v h
                  refine G_r _ 5 rfl (by decide +kernel) (R_ld sc2 h) ?_
                  intro v h
                  refine G_p 6 rfl (by decide +kernel) (Y_le h) ?_
                  intro v h
                  refine G_p 7 rfl (by decide +kernel) (Y_mv h) ?_
                  intro v h
                  refine G_pg (t := 69) 8 rfl (by decide +kernel) h rfl rfl (fun h => Y_mv h) ?_
                  intro v h
                  refine G_pg (t := 69) 9 rfl (by decide +kernel) h rfl rfl (fun h => Y_nei h) ?_
                  intro v h
                  refine G_p 10 rfl (by decide +kernel) (Y_pk h) ?_
                  intro v h
                  refine G_p 11 rfl (by decide +kernel) (Y_mv h) ?_
                  intro v h
                  refine G_pg (t := 73) 12 rfl (by decide +kernel) h rfl rfl (fun h => Y_mv h) ?_
                  intro v h
                  refine G_pg (t := 73) 13 rfl (by decide +kernel) h rfl rfl (fun h => Y_mv h) ?_
                  intro v h
                  refine G_pg (t := 73) 14 rfl (by decide +kernel) h rfl rfl (fun h => Y_ia se36 h) ?_
                  intro v h
                  refine G_rg (t := 73) _ 15 rfl (by decide +kernel) h rfl rfl (fun h => R_ld sc2 h) ?_
                  intro v h
                  refine G_pg (t := 73) 16 rfl (by decide +kernel) h rfl rfl (fun h => Y_fa fo28_2 h) ?_
                  intro v h
                  refine G_rg (t := 73) _ 17 rfl (by decide +kernel) h rfl rfl (fun h => R_ld sc2 h) ?_
                  intro v h
                  refine G_pg (t := 73) 18 rfl (by decide +kernel) h rfl rfl (fun h => Y_gt h) ?_
                  intro v h
                  refine G_pg (t := 73) 19 rfl (by decide +kernel) h rfl rfl (fun h => Y_mv h) ?_
                  intro v h
                  refine G_pg (t := 81) 20 rfl (by decide +kernel) h rfl rfl (fun h => Y_mv h) ?_
                  intro v h
                  refine G_pg (t := 81) 21 rfl (by decide +kernel) h rfl rfl (fun h => Y_nei h) ?_
                  intro v h
                  refine G_pg (t := 73) 22 rfl (by decide +kernel) h rfl rfl (fun h => Y_pk h) ?_
                  intro v h
                  refine G_p 23 rfl (by decide +kernel) (Y_pk h) ?_
                  intro v h
                  refine G_done (by decide +kernel) ?_
                  refine E_n ?_
                  refine C_cnd h (fun h => ?_) (fun h => ?_)
                  · refine wp_seq ?_
                    refine L_region ?_
                    refine L_as ?_
                    refine L_nil ?_
                    refine E_n ?_
                    refine C_ret ?_
                    show bodyPost Try.prog Try.f4 (Rt Q) .ret _ _
                    exact post_tmps (ts := [2]) (.inr rfl) rfl h
                  · refine C_skip ?_
                    refine E_n ?_
                    refine wp_seq ?_
                    refine L_region ?_
                    refine L_mv ?_
                    refine L_u (P_eqi h) ?_
                    intro v w h
                    refine L_nil ?_
                    refine E_n ?_
                    refine C_join (fun (k : Value → Value → Value → Value → Value → Value → Value → Value → Value → Value → M) (ρ : Nat → Value) => k (ρ 0) (ρ 3) (ρ 4) (ρ 5) (ρ 6) (ρ 7) (ρ 8) (ρ 9) (ρ 10) (ρ 11)) h (fun j9 J9 h => ?_) (fun ρ w h => ?_)
                    · refine C_cnd h (fun h => ?_) (fun h => ?_)
                      · refine wp_seq ?_
                        refine L_region ?_
                        refine L_mv ?_
                        refine L_mv ?_
                        refine L_mv ?_
                        refine L_u (P_ia se32 h) ?_
                        intro v w h
                        refine L_u (P_ld sc3 h) ?_
                        intro v w h
                        refine L_u (N_bsl h) ?_
                        intro v w h
                        refine L_u (N_bi rfl h) ?_
                        intro v w h
                        refine L_as ?_
                        refine L_nil ?_
                        refine E_n ?_
                        refine L_region ?_
                        refine L_mv ?_
                        refine L_mv ?_
                        refine L_mv ?_
                        refine L_u (P_ia se36 h) ?_
                        intro v w h
                        refine L_u (P_ld sc2 h) ?_
                        intro v w h
                        refine L_u (N_bsl h) ?_
                        intro v w h
                        refine L_u (N_bi rfl h) ?_
                        intro v w h
                        refine L_as ?_
                        refine L_nil ?_
                        exact J9 _ _ h
                      · refine C_skip ?_
                        exact J9 _ _ h
                    · unfold f4_j9 at h
                      refine B_n ?_
                      refine E_n ?_
                      refine L_region ?_
                      refine L_mv ?_
                      refine L_u (P_ad h) ?_
                      intro v w h
                      refine L_as ?_
                      refine L_nil ?_
                      refine E_n ?_
                      exact L5 _ _ h
              · refine C_exit ?_
                refine E_x ?_
                refine E_x ?_
                refine B_x ?_
                exact J4 _ _ h
            · unfold f4_j4 at h
              refine E_n ?_
              refine wp_seq ?_
              refine wp_seq ?_
              refine L_region ?_
              refine L_mv ?_
              refine L_u (P_lnl is32 h) ?_
              intro v w h
              refine L_mv ?_
              refine L_u (P_lnl is32 h) ?_
              intro v w h
              refine L_u (P_ad h) ?_
              intro v w h
              refine L_mv ?_
              refine L_u (P_lnl is32 h) ?_
              intro v w h
              refine L_u (P_nei h) ?_
              intro v w h
              refine L_nil ?_
              refine E_n ?_
              refine C_cnd h (fun h => ?_) (fun h => ?_)
              · refine wp_seq ?_
                refine L_region ?_
                refine L_as ?_
                refine L_nil ?_
                refine E_n ?_
                refine C_ret ?_
                show bodyPost Try.prog Try.f4 (Rt Q) .ret _ _
                exact post_tmps (ts := [2]) (.inr rfl) rfl h
              · refine C_skip ?_
                refine E_n ?_
                refine wp_seq ?_
                refine L_region ?_
                refine L_mv ?_
                refine L_as ?_
                refine L_nil ?_
                refine E_n ?_
                refine wp_seq ?_
                refine L_region ?_
                refine L_mv ?_
                refine L_as ?_
                refine L_nil ?_
                refine E_n ?_
                refine C_exit ?_
                refine E_x ?_
                refine B_x ?_
                exact J3 _ _ h
          · refine C_skip ?_
            refine E_n ?_
            refine wp_seq ?_
            refine L_region ?_
            refine L_as ?_
            refine L_nil ?_
            refine E_n ?_
            refine wp_seq ?_
            refine L_region ?_
            refine L_as ?_
            refine L_nil ?_
            refine E_n ?_
            refine wp_seq ?_
            refine wp_seq ?_
            refine L_region ?_
            refine L_as ?_
            refine L_nil ?_
            refine E_n ?_
            refine C_join (fun (k : Value → Value → Value → Value → Value → Value → M) (ρ : Nat → Value) => k (ρ 0) (ρ 3) (ρ 6) (ρ 7) (ρ 14) (ρ 15)) h (fun j10 J10 h => ?_) (fun ρ w h => ?_)
            · refine C_blk ?_
              refine C_lo (fun (l : Value → Value → Value → Value → Value → Value → Value → Value → Value → M) (ρ : Nat → Value) => l (ρ 0) (ρ 3) (ρ 4) (ρ 5) (ρ 6) (ρ 7) (ρ 14) (ρ 15) (ρ 16)) h (fun ρ w h => h) (fun nx self11 L11 ρ w h => ?_)
              unfold f4_b11 at h
              refine wp_seq ?_
              refine wp_seq ?_
              refine L_region ?_
              refine L_mv ?_
              refine L_mv ?_
              refine L_u (P_lnl is32 h) ?_
              intro v w h
              refine L_u (P_lt h) ?_
              intro v w h
              refine L_nil ?_
              refine E_n ?_
              refine C_cnd h (fun h => ?_) (fun h => ?_)
              · refine C_skip ?_
                refine E_n ?_
                refine wp_seq ?_
                refine C_blk ?_
                refine wp_seq ?_
                refine D_region (by decide +kernel) 7 rfl ?_
                replace h := dr_e h
                refine G_p 0 rfl (by decide +kernel) (Y_mv h) ?_
                intro v h
                refine G_p 1 rfl (by decide +kernel) (Y_mv h) ?_
                intro v h
                refine G_p 2 rfl (by decide +kernel) (Y_ia se32 h) ?_
                intro v h
                refine G_r _ 3 rfl (by decide +kernel) (R_ld sc3 h) ?_
                intro v h
                refine G_p 4 rfl (by decide +kernel) (Y_fa fo28_1 h) ?_
                intro v h
                refine G_r _ 5 rfl (by decide +kernel) (R_ld sc3 h) ?_
                intro v h
                refine G_p 6 rfl (by decide +kernel) (Y_nei h) ?_
                intro v h
                refine G_done (by decide +kernel) ?_
                refine E_n ?_
                refine C_join (fun (k : Value → Value → Value → Value → Value → Value → Value → Value → Value → M) (ρ : Nat → Value) => k (ρ 0) (ρ 3) (ρ 4) (ρ 5) (ρ 6) (ρ 7) (ρ 14) (ρ 15) (ρ 16)) h (fun j12 J12 h => ?_) (fun ρ w h => ?_)
                · refine C_cnd h (fun h => ?_) (fun h => ?_)
                  · refine wp_seq ?_
                    refine L_region ?_
                    refine L_mv ?_
                    refine L_mv ?_
                    refine L_mv ?_
                    refine L_u (P_ia se32 h) ?_
                    intro v w h
                    refine L_u (P_ld sc3 h) ?_
                    intro v w h
                    refine L_u (N_bsl h) ?_
                    intro v w h
                    refine L_u (N_bi rfl h) ?_
                    intro v w h
                    refine L_as ?_
                    refine L_nil ?_
                    refine E_n ?_
                    refine L_region ?_
                    refine L_mv ?_
                    refine L_mv ?_
                    refine L_mv ?_
                    refine L_u (P_ia se36 h) ?_
                    intro v w h
                    refine L_u (P_ld sc2 h) ?_
                    intro v w h
                    refine L_u (N_bsl h) ?_
                    intro v w h
                    refine L_u (N_bi rfl h) ?_
                    intro v w h
                    refine L_as ?_
                    refine L_nil ?_
                    exact J12 _ _ h
                  · refine C_skip ?_
                    exact J12 _ _ h
                · unfold f4_j12 at h
                  refine B_n ?_
                  refine E_n ?_
                  refine L_region ?_
                  refine L_mv ?_
                  refine L_u (P_ad h) ?_
                  intro v w h
                  refine L_as ?_
                  refine L_nil ?_
                  refine E_n ?_
                  exact L11 _ _ h
              · refine C_exit ?_
                refine E_x ?_
                refine E_x ?_
                refine B_x ?_
                exact J10 _ _ h
            · unfold f4_j10 at h
              refine E_n ?_
              refine wp_seq ?_
              refine L_region ?_
              refine L_mv ?_
              refine L_as ?_
              refine L_nil ?_
              refine E_n ?_
              refine wp_seq ?_
              refine L_region ?_
              refine L_mv ?_
              refine L_as ?_
              refine L_nil ?_
              refine E_n ?_
              refine wp_seq ?_
              refine L_region ?_
              refine L_u (P_ldn ag28 h) ?_
              intro v w h
              refine L_u (N_cl Try.func14 rfl nn14 (fun w Q h => s14 _ w Q h) h) ?_
              intro v w h
              refine L_u (P_eqi h) ?_
              intro v w h
              refine L_nil ?_
              refine E_n ?_
              refine C_cnd h (fun h => ?_) (fun h => ?_)
              · refine wp_seq ?_
                refine L_region ?_
                refine L_mv ?_
                refine L_u (P_fa fo28_1 h) ?_
                intro v w h
                refine L_u (P_ld sc3 h) ?_
                intro v w h
                refine L_u (P_fa fo28_2 h) ?_
                intro v w h
                refine L_u (P_ld sc2 h) ?_
                intro v w h
                refine L_u (N_cl Try.func10 rfl nn10 (fun w Q h => s10 _ _ _ w Q h) h) ?_
                intro v w h
                refine L_nil ?_
                refine E_n ?_
                refine wp_seq ?_
                refine L_region ?_
                refine L_mv ?_
                refine L_u (P_fa fo28_1 h) ?_
                intro v w h
                refine L_u (P_ld sc3 h) ?_
                intro v w h
                refine L_u (N_bsl h) ?_
                intro v w h
                refine L_u (N_bi rfl h) ?_
                intro v w h
                refine L_as ?_
                refine L_nil ?_
                refine E_n ?_
                refine L_region ?_
                refine L_mv ?_
                refine L_u (P_fa fo28_2 h) ?_
                intro v w h
                refine L_u (P_ld sc2 h) ?_
                intro v w h
                refine L_u (N_bsl h) ?_
                intro v w h
                refine L_u (N_bi rfl h) ?_
                intro v w h
                refine L_as ?_
                refine L_nil ?_
                refine B_n ?_
                exact J3 _ _ h
              · refine L_region ?_
                refine L_mv ?_
                refine L_u (P_fa fo28_1 h) ?_
                intro v w h
                refine L_u (P_ld sc3 h) ?_
                intro v w h
                refine L_u (N_cl Try.func15 rfl nn15 (fun w Q h => s15 _ _ w Q h) h) ?_
                intro v w h
                refine L_nil ?_
                refine B_n ?_
                exact J3 _ _ h
        · unfold f4_j3 at h
          refine E_n ?_
          refine L_region ?_
          refine L_mv ?_
          refine L_u (P_ad h) ?_
          intro v w h
          refine L_as ?_
          refine L_nil ?_
          refine E_n ?_
          exact L2 _ _ h
      · refine C_exit ?_
        refine E_x ?_
        refine E_x ?_
        refine B_x ?_
        exact J1 _ _ h
    · unfold f4_j1 at h
      refine E_n ?_
      refine wp_seq ?_
      refine L_region ?_
      refine L_mv ?_
      refine L_u (N_cl Try.func13 rfl nn13 (fun w Q h => s13 _ w Q h) h) ?_
      intro v w h
      refine L_mv ?_
      refine L_u (P_lnl is32 h) ?_
      intro v w h
      refine L_u (P_eqi h) ?_
      intro v w h
      refine L_as ?_
      refine L_nil ?_
      refine E_n ?_
      refine C_ret ?_
      show bodyPost Try.prog Try.f4 (Rt Q) .ret _ _
      exact post_tmps (ts := [2]) (.inr rfl) rfl h

/- (*factotum/factotumref18.Timers).Drop -/
def f17_b2 (j1 : M) (self2 : Value → Value → Value → M) (t0_1 t1_1 t5 : Value) : M :=
  nc t0_1 fun t8 =>
  fa 0 t8 fun t9 =>
  ld t9 fun t10 =>
  lnl t10 fun t11 =>
  lt .i64 t5 t11 fun t12 =>
  cnd t12 (
    nc t0_1 fun t16 =>
    fa 0 t16 fun t17 =>
    ld t17 fun t18 =>
    ia 2 t18 t5 fun t20 =>
    fa 0 t20 fun t21 =>
    ld t21 fun t22 =>
    eqi .i64 t22 t1_1 fun t24 =>
    cnd t24 (
      dr <|
      idv t0_1 fun t25 =>
      idv t0_1 fun t26 =>
      nc t26 fun t27 =>
      fa 0 t27 fun t28 =>
      ld t28 fun t29 =>
      idv t5 fun t30 =>
      sll 2 t29 none (some t30) fun t31 =>
      idv t0_1 fun t33 =>
      nc t33 fun t34 =>
      fa 0 t34 fun t35 =>
      ld t35 fun t36 =>
      idv t5 fun t37 =>
      ad .i64 t37 (.int .i64 1) fun t38 =>
      sll 2 t36 (some t38) none fun t39 =>
      sm Try.prog (Builtin.append_ #[40, 40] 40 #[(.slice none 0 0), t31]) fun t32 =>
      kp (Kld t35 t36) <|
      sm Try.prog (Builtin.append_ #[40, 40] 40 #[t32, t39]) fun t40 =>
      nc t25 fun t41 =>
      fa 0 t41 fun t42 =>
      st t42 t40 <|
      rt (.bool true)
      ) (
      ad .i64 t5 (.int .i64 1) fun t14 =>
      self2 t0_1 t1_1 t14
      )
    ) (
    j1
    )
def f17_j1 : M :=
  rt (.bool false)
def f17 (t0 t1 : Value) : M :=
  jn (fun (j1 : M) =>
    lo (fun _ _ _ => bot) (f17_b2 j1) (fun l => l t0 t1 (.int .i64 0))
    ) (f17_j1)
theorem s17 (t0 t1 : Value) (w : World) (Q : Value → World → Prop) (h : f17 t0 t1 w Q) : Calls Try.prog 17 #[t0, t1] w (Rt Q) := by
  refine calls_of (l := [t0, t1]) Try.func17 rfl Try.ntmps17 (Nat.le_of_ble_eq_true rfl) ?_
  unfold f17 at h
  refine wp_seq ?_
  refine L_region ?_
  refine L_as ?_
  refine L_nil ?_
  refine E_n ?_
  refine wp_seq ?_
  refine wp_seq ?_
  refine L_region ?_
  refine L_as ?_
  refine L_nil ?_
  refine E_n ?_
  refine C_join (fun (k : M) (ρ : Nat → Value) => k) h (fun j1 J1 h => ?_) (fun ρ w h => ?_)
  · refine C_blk ?_
    refine C_lo (fun (l : Value → Value → Value → M) (ρ : Nat → Value) => l (ρ 0) (ρ 1) (ρ 5)) h (fun ρ w h => h) (fun nx self2 L2 ρ w h => ?_)
    unfold f17_b2 at h
    refine wp_seq ?_
    refine wp_seq ?_
    refine L_region ?_
    refine L_mv ?_
    refine L_mv ?_
    refine L_u (P_nc h) ?_
    intro v w h
    refine L_u (P_fa fo42_0 h) ?_
    intro v w h
    refine L_u (P_ld sc40 h) ?_
    intro v w h
    refine L_u (P_lnl is40 h) ?_
    intro v w h
    refine L_u (P_lt h) ?_
    intro v w h
    refine L_nil ?_
    refine E_n ?_
    refine C_cnd h (fun h => ?_) (fun h => ?_)
    · refine C_skip ?_
      refine E_n ?_
      refine wp_seq ?_
      refine C_blk ?_
      refine wp_seq ?_
      refine L_region ?_
      refine L_mv ?_
      refine L_u (P_nc h) ?_
      intro v w h
      refine L_u (P_fa fo42_0 h) ?_
      intro v w h
      refine L_u (P_ld sc40 h) ?_
      intro v w h
      refine L_mv ?_
      refine L_u (P_ia se40 h) ?_
      intro v w h
      refine L_u (P_fa fo45_0 h) ?_
      intro v w h
      refine L_u (P_ld sc3 h) ?_
      intro v w h
      refine L_mv ?_
      refine L_u (P_eqi h) ?_
      intro v w h
      refine L_nil ?_
      refine E_n ?_
      refine C_cnd h (fun h => ?_) (fun h => ?_)
      · refine wp_seq ?_
        refine D_region (by decide +kernel) 19 rfl ?_
        replace h := dr_e h
        refine G_p 0 rfl (by decide +kernel) (Y_mv h) ?_
        intro v h
        refine G_p 1 rfl (by decide +kernel) (Y_mv h) ?_
        intro v h
        refine G_p 2 rfl (by decide +kernel) (Y_nc h) ?_
        intro v h
        refine G_p 3 rfl (by decide +kernel) (Y_fa fo42_0 h) ?_
        intro v h
        refine G_r _ 4 rfl (by decide +kernel) (R_ld sc40 h) ?_
        intro v h
        refine G_p 5 rfl (by decide +kernel) (Y_mv h) ?_
        intro v h
        refine G_p 6 rfl (by decide +kernel) (Y_sll se40 h) ?_
        intro v h
        refine G_p 8 rfl (by decide +kernel) (Y_mv h) ?_
        intro v h
        refine G_p 9 rfl (by decide +kernel) (Y_nc h) ?_
        intro v h
        refine G_p 10 rfl (by decide +kernel) (Y_fa fo42_0 h) ?_
        intro v h
        refine G_r _ 11 rfl (by decide +kernel) (R_ld sc40 h) ?_
        intro v h
        refine G_p 12 rfl (by decide +kernel) (Y_mv h) ?_
        intro v h
        refine G_p 13 rfl (by decide +kernel) (Y_ad h) ?_
        intro v h
        refine G_p 14 rfl (by decide +kernel) (Y_sll se40 h) ?_
        intro v h
        refine G_e 7 rfl (by decide +kernel) (N_bi rfl h ?_)
        intro v w h
        refine ⟨keepF_cons (kp_1 h) (keepF_dep [6, 4] (by decide +kernel) rfl keepF_nil), ?_⟩
        replace h := (kp_2 h)
        refine G_e 15 rfl (by decide +kernel) (N_bi rfl h ?_)
        intro v w h
        refine ⟨keepF_dep [14, 11] (by decide +kernel) rfl (keepF_dep [7, 6, 4] (by decide +kernel) rfl keepF_nil), ?_⟩
        refine G_p 16 rfl (by decide +kernel) (Y_nc h) ?_
        intro v h
        refine G_p 17 rfl (by decide +kernel) (Y_fa fo42_0 h) ?_
        intro v h
        refine G_e 18 rfl (by decide +kernel) (P_st on40 h ?_)
        intro w h
        refine ⟨keepF_dep [11] (by decide +kernel) rfl (keepF_dep [4] (by decide +kernel) rfl keepF_nil), ?_⟩
        refine G_done (by decide +kernel) ?_
        refine E_n ?_
        refine wp_seq ?_
        refine L_region ?_
        refine L_as ?_
        refine L_nil ?_
        refine E_n ?_
        refine C_ret ?_
        show bodyPost Try.prog Try.f17 (Rt Q) .ret _ _
        exact post_tmps (ts := [4]) (.inr rfl) rfl h
      · refine C_skip ?_
        refine B_n ?_
        refine E_n ?_
        refine L_region ?_
        refine L_mv ?_
        refine L_u (P_ad h) ?_
        intro v w h
        refine L_as ?_
        refine L_nil ?_
        refine E_n ?_
        exact L2 _ _ h
    · refine C_exit ?_
      refine E_x ?_
      refine E_x ?_
      refine B_x ?_
      exact J1 _ _ h
  · unfold f17_j1 at h
    refine E_n ?_
    refine wp_seq ?_
    refine L_region ?_
    refine L_as ?_
    refine L_nil ?_
    refine E_n ?_
    refine C_ret ?_
    show bodyPost Try.prog Try.f17 (Rt Q) .ret _ _
    exact post_tmps (ts := [4]) (.inr rfl) rfl h

/- (*factotum/factotumref18.Timers).Set -/
def f16_b2 (j1 : Value → Value → Value → Value → M) (self2 : Value → Value → Value → Value → M) (t0_1 t1_1 t2_1 t6 : Value) : M :=
  nc t0_1 fun t12 =>
  fa 0 t12 fun t13 =>
  ld t13 fun t14 =>
  lnl t14 fun t15 =>
  lt .i64 t6 t15 fun t16 =>
  gd t16 true (idv t0_1) fun t18 =>
  gd t16 true (nc t18) fun t19 =>
  gd t16 true (fa 0 t19) fun t20 =>
  gd t16 true (ld t20) fun t21 =>
  gd t16 true (idv t6) fun t22 =>
  gd t16 true (ia 2 t21 t22) fun t23 =>
  gd t16 true (fa 1 t23) fun t24 =>
  gd t16 true (ld t24) fun t25 =>
  gd t16 true (idv t2_1) fun t26 =>
  gd t16 true (lt .i64 t25 t26) fun t27 =>
  gd t16 true (idv t27) fun t28 =>
  gd t28 false (idv t0_1) fun t29 =>
  gd t28 false (nc t29) fun t30 =>
  gd t28 false (fa 0 t30) fun t31 =>
  gd t28 false (ld t31) fun t32 =>
  gd t28 false (idv t6) fun t33 =>
  gd t28 false (ia 2 t32 t33) fun t34 =>
  gd t28 false (fa 1 t34) fun t35 =>
  gd t28 false (ld t35) fun t36 =>
  gd t28 false (idv t2_1) fun t37 =>
  gd t28 false (eqi .i64 t36 t37) fun t38 =>
  gd t28 false (idv t38) fun t39 =>
  gd t39 true (idv t0_1) fun t40 =>
  gd t39 true (nc t40) fun t41 =>
  gd t39 true (fa 0 t41) fun t42 =>
  gd t39 true (ld t42) fun t43 =>
  gd t39 true (idv t6) fun t44 =>
  gd t39 true (ia 2 t43 t44) fun t45 =>
  gd t39 true (fa 0 t45) fun t46 =>
  gd t39 true (ld t46) fun t47 =>
  gd t39 true (idv t1_1) fun t48 =>
  gd t39 true (lt .i64 t47 t48) fun t49 =>
  gd t28 false (pk t39 t49 (.bool false)) fun t50 =>
  gd t16 true (pk t28 (.bool true) t50) fun t51 =>
  pk t16 t51 (.bool false) fun t52 =>
  cnd t52 (
    ad .i64 t6 (.int .i64 1) fun t54 =>
    self2 t0_1 t1_1 t2_1 t54
    ) (
    j1 t0_1 t1_1 t2_1 t6
    )
def f16_j1 (t0_2 t1_2 t2_2 t6_1 : Value) : M :=
  dr <|
  idv t0_2 fun t55 =>
  idv t0_2 fun t56 =>
  nc t56 fun t57 =>
  fa 0 t57 fun t58 =>
  ld t58 fun t59 =>
  idv t6_1 fun t60 =>
  sll 2 t59 none (some t60) fun t61 =>
  idv t1_2 fun t63 =>
  idv t2_2 fun t64 =>
  smr Try.prog (Instr.build 45 #[(0, t63), (1, t64)]) fun t65 =>
  idv t0_2 fun t68 =>
  nc t68 fun t69 =>
  fa 0 t69 fun t70 =>
  ld t70 fun t71 =>
  idv t6_1 fun t72 =>
  sll 2 t71 (some t72) none fun t73 =>
  amb (
    sm Try.prog (Builtin.append_ #[40, 40] 40 #[(.slice none 0 0), t61]) fun t62 =>
    kp (Kld t70 t71) <|
    kp (Ksm Try.prog (Instr.build 45 #[(0, t63), (1, t64)]) t65) <|
    sm Try.prog (Instr.buildSlice 40 1 #[(0, t65)]) fun t66_1 =>
    kp (Kld t70 t71) <|
    kp (Kld t58 t59) <|
    sm Try.prog (Builtin.append_ #[40, 40] 40 #[t62, t66_1]) fun t67 =>
    kp (Kld t70 t71) <|
    sm Try.prog (Builtin.append_ #[40, 40] 40 #[t67, t73]) fun t74 =>
    nc t55 fun t75 =>
    fa 0 t75 fun t76 =>
    st t76 t74 <|
    rt (.tuple #[])
    ) (
    sm Try.prog (Instr.buildSlice 40 1 #[(0, t65)]) fun t66 =>
    kp (Kld t70 t71) <|
    kp (Kld t58 t59) <|
    sm Try.prog (Builtin.append_ #[40, 40] 40 #[(.slice none 0 0), t61]) fun t62_1 =>
    kp (Kld t70 t71) <|
    kp (Ksm Try.prog (Instr.build 45 #[(0, t63), (1, t64)]) t65) <|
    sm Try.prog (Builtin.append_ #[40, 40] 40 #[t62_1, t66]) fun t67_1 =>
    kp (Kld t70 t71) <|
    sm Try.prog (Builtin.append_ #[40, 40] 40 #[t67_1, t73]) fun t74_1 =>
    nc t55 fun t75_1 =>
    fa 0 t75_1 fun t76_1 =>
    st t76_1 t74_1 <|
    rt (.tuple #[])
    )
def f16 (t0 t1 t2 : Value) : M :=
  cl (f17 t0 t1) fun t9 =>
  jn (fun (j1 : Value → Value → Value → Value → M) =>
    lo (fun _ _ _ _ => bot) (f16_b2 j1) (fun l => l t0 t1 t2 (.int .i64 0))
    ) (f16_j1)
theorem s16 (t0 t1 t2 : Value) (w : World) (Q : Value → World → Prop) (h : f16 t0 t1 t2 w Q) : Calls Try.prog 16 #[t0, t1, t2] w (Rt Q) := by
  refine calls_of (l := [t0, t1, t2]) Try.func16 rfl Try.ntmps16 (Nat.le_of_ble_eq_true rfl) ?_
  unfold f16 at h
  refine wp_seq ?_
  refine L_region ?_
  refine L_mv ?_
  refine L_mv ?_
  refine L_u (N_cl Try.func17 rfl nn17 (fun w Q h => s17 _ _ w Q h) h) ?_
  intro v w h
  refine L_nil ?_
  refine E_n ?_
  refine wp_seq ?_
  refine L_region ?_
  refine L_as ?_
  refine L_nil ?_
  refine E_n ?_
  refine wp_seq ?_
  refine C_join (fun (k : Value → Value → Value → Value → M) (ρ : Nat → Value) => k (ρ 0) (ρ 1) (ρ 2) (ρ 6)) h (fun j1 J1 h => ?_) (fun ρ w h => ?_)
  · refine C_blk ?_
    refine C_lo (fun (l : Value → Value → Value → Value → M) (ρ : Nat → Value) => l (ρ 0) (ρ 1) (ρ 2) (ρ 6)) h (fun ρ w h => h) (fun nx self2 L2 ρ w h => ?_)
    unfold f16_b2 at h
    refine wp_seq ?_
    refine wp_seq ?_
    refine L_region ?_
    refine L_mv ?_
    refine L_mv ?_
    refine L_u (P_nc h) ?_
    intro v w h
    refine L_u (P_fa fo42_0 h) ?_
    intro v w h
    refine L_u (P_ld sc40 h) ?_
    intro v w h
    refine L_u (P_lnl is40 h) ?_
    intro v w h
    refine L_u (P_lt h) ?_
    intro v w h
    refine L_mv ?_
    refine L_g (t := 17) h rfl rfl (fun c h => P_mv h c) ?_
    intro v w h
    refine L_g (t := 17) h rfl rfl (fun c h => P_nc h c) ?_
    intro v w h
    refine L_g (t := 17) h rfl rfl (fun c h => P_fa fo42_0 h c) ?_
    intro v w h
    refine L_g (t := 17) h rfl rfl (fun c h => P_ld sc40 h c) ?_
    intro v w h
    refine L_g (t := 17) h rfl rfl (fun c h => P_mv h c) ?_
    intro v w h
    refine L_g (t := 17) h rfl rfl (fun c h => P_ia se40 h c) ?_
    intro v w h
    refine L_g (t := 17) h rfl rfl (fun c h => P_fa fo45_1 h c) ?_
    intro v w h
    refine L_g (t := 17) h rfl rfl (fun c h => P_ld sc2 h c) ?_
    intro v w h
    refine L_g (t := 17) h rfl rfl (fun c h => P_mv h c) ?_
    intro v w h
    refine L_g (t := 17) h rfl rfl (fun c h => P_lt h c) ?_
    intro v w h
    refine L_g (t := 17) h rfl rfl (fun c h => P_mv h c) ?_
    intro v w h
    refine L_g (t := 28) h rfl rfl (fun c h => P_mv h c) ?_
    intro v w h
    refine L_g (t := 28) h rfl rfl (fun c h => P_nc h c) ?_
    intro v w h
    refine L_g (t := 28) h rfl rfl (fun c h => P_fa fo42_0 h c) ?_
    intro v w h
    refine L_g (t := 28) h rfl rfl (fun c h => P_ld sc40 h c) ?_
    intro v w h
    refine L_g (t := 28) h rfl rfl (fun c h => P_mv h c) ?_
    intro v w h
    refine L_g (t := 28) h rfl rfl (fun c h => P_ia se40 h c) ?_
    intro v w h
    refine L_g (t := 28) h rfl rfl (fun c h => P_fa fo45_1 h c) ?_
    intro v w h
    refine L_g (t := 28) h rfl rfl (fun c h => P_ld sc2 h c) ?_
    intro v w h
    refine L_g (t := 28) h rfl rfl (fun c h => P_mv h c) ?_
    intro v w h
    refine L_g (t := 28) h rfl rfl (fun c h => P_eqi h c) ?_
    intro v w h
    refine L_g (t := 28) h rfl rfl (fun c h => P_mv h c) ?_
    intro v w h
    refine L_g (t := 39) h rfl rfl (fun c h => P_mv h c) ?_
    intro v w h
    refine L_g (t := 39) h rfl rfl (fun c h => P_nc h c) ?_
    intro v w h
    refine L_g (t := 39) h rfl rfl (fun c h => P_fa fo42_0 h c) ?_
    intro v w h
    refine L_g (t := 39) h rfl rfl (fun c h => P_ld sc40 h c) ?_
    intro v w h
    refine L_g (t := 39) h rfl rfl (fun c h => P_mv h c) ?_
    intro v w h
    refine L_g (t := 39) h rfl rfl (fun c h => P_ia se40 h c) ?_
    intro v w h
    refine L_g (t := 39) h rfl rfl (fun c h => P_fa fo45_0 h c) ?_
    intro v w h
    refine L_g (t := 39) h rfl rfl (fun c h => P_ld sc3 h c) ?_
    intro v w h
    refine L_g (t := 39) h rfl rfl (fun c h => P_mv h c) ?_
    intro v w h
    refine L_g (t := 39) h rfl rfl (fun c h => P_lt h c) ?_
    intro v w h
    refine L_g (t := 28) h rfl rfl (fun c h => P_pk h c) ?_
    intro v w h
    refine L_g (t := 17) h rfl rfl (fun c h => P_pk h c) ?_
    intro v w h
    refine L_u (P_pk h) ?_
    intro v w h
    refine L_nil ?_
    refine E_n ?_
    refine C_cnd h (fun h => ?_) (fun h => ?_)
    · refine C_skip ?_
      refine E_n ?_
      refine C_blk ?_
      refine L_region ?_
      refine L_mv ?_
      refine L_u (P_ad h) ?_
      intro v w h
      refine L_as ?_
      refine L_nil ?_
      refine B_n ?_
      refine E_n ?_
      exact L2 _ _ h
    · refine C_exit ?_
      refine E_x ?_
      refine E_x ?_
      refine B_x ?_
      exact J1 _ _ h
  · unfold f16_j1 at h
    refine E_n ?_
    refine D_region (by decide +kernel) 23 rfl ?_
    replace h := dr_e h
    refine G_p 0 rfl (by decide +kernel) (Y_mv h) ?_
    intro v h
    refine G_p 1 rfl (by decide +kernel) (Y_mv h) ?_
    intro v h
    refine G_p 2 rfl (by decide +kernel) (Y_nc h) ?_
    intro v h
    refine G_p 3 rfl (by decide +kernel) (Y_fa fo42_0 h) ?_
    intro v h
    refine G_r _ 4 rfl (by decide +kernel) (R_ld sc40 h) ?_
    intro v h
    refine G_p 5 rfl (by decide +kernel) (Y_mv h) ?_
    intro v h
    refine G_p 6 rfl (by decide +kernel) (Y_sll se40 h) ?_
    intro v h
    refine G_p 8 rfl (by decide +kernel) (Y_mv h) ?_
    intro v h
    refine G_p 9 rfl (by decide +kernel) (Y_mv h) ?_
    intro v h
    refine G_r _ 10 rfl (by decide +kernel) (R_bld h) ?_
    intro v h
    refine G_p 13 rfl (by decide +kernel) (Y_mv h) ?_
    intro v h
    refine G_p 14 rfl (by decide +kernel) (Y_nc h) ?_
    intro v h
    refine G_p 15 rfl (by decide +kernel) (Y_fa fo42_0 h) ?_
    intro v h
    refine G_r _ 16 rfl (by decide +kernel) (R_ld sc40 h) ?_
    intro v h
    refine G_p 17 rfl (by decide +kernel) (Y_mv h) ?_
    intro v h
    refine G_p 18 rfl (by decide +kernel) (Y_sll se40 h) ?_
    intro v h
    refine G_two (i := 7) (j := 11) (by decide +kernel) (G_op rfl (N_bi rfl (amb_1 h) ?_)) (G_op rfl (N_bsl (amb_2 h) ?_))
    · intro v w h
      refine ⟨keepF_cons (kp_1 h) (keepF_cons (kp_1 (kp_2 h)) (keepF_dep [6, 4] (by decide +kernel) rfl keepF_nil)), ?_⟩
      replace h := (kp_2 (kp_2 h))
      refine G_e 11 rfl (by decide +kernel) (N_bsl h ?_)
      intro v w h
      refine ⟨keepF_cons (kp_1 h) (keepF_dep [10] (by decide +kernel) rfl (keepF_cons (kp_1 (kp_2 h)) keepF_nil)), ?_⟩
      replace h := (kp_2 (kp_2 h))
      refine G_e 12 rfl (by decide +kernel) (N_bi rfl h ?_)
      intro v w h
      refine ⟨keepF_cons (kp_1 h) (keepF_dep [11, 10] (by decide +kernel) rfl (keepF_dep [7, 6, 4] (by decide +kernel) rfl keepF_nil)), ?_⟩
      replace h := (kp_2 h)
      refine G_e 19 rfl (by decide +kernel) (N_bi rfl h ?_)
      intro v w h
      refine ⟨keepF_dep [18, 16] (by decide +kernel) rfl (keepF_dep [12, 11, 10] (by decide +kernel) rfl (keepF_dep [12, 7, 6, 4] (by decide +kernel) rfl keepF_nil)), ?_⟩
      refine G_p 20 rfl (by decide +kernel) (Y_nc h) ?_
      intro v h
      refine G_p 21 rfl (by decide +kernel) (Y_fa fo42_0 h) ?_
      intro v h
      refine G_e 22 rfl (by decide +kernel) (P_st on40 h ?_)
      intro w h
      refine ⟨keepF_dep [16] (by decide +kernel) rfl (keepF_dep [10] (by decide +kernel) rfl (keepF_dep [4] (by decide +kernel) rfl keepF_nil)), ?_⟩
      refine G_done (by decide +kernel) ?_
      show bodyPost Try.prog Try.f16 (Rt Q) .normal _ _
      exact post_tmps (ts := []) (.inl rfl) rfl h
    · intro v w h
      refine ⟨keepF_cons (kp_1 h) (keepF_dep [10] (by decide +kernel) rfl (keepF_cons (kp_1 (kp_2 h)) keepF_nil)), ?_⟩
      replace h := (kp_2 (kp_2 h))
      refine G_e 7 rfl (by decide +kernel) (N_bi rfl h ?_)
      intro v w h
      refine ⟨keepF_cons (kp_1 h) (keepF_cons (kp_1 (kp_2 h)) (keepF_dep [6, 4] (by decide +kernel) rfl keepF_nil)), ?_⟩
      replace h := (kp_2 (kp_2 h))
      refine G_e 12 rfl (by decide +kernel) (N_bi rfl h ?_)
      intro v w h
      refine ⟨keepF_cons (kp_1 h) (keepF_dep [11, 10] (by decide +kernel) rfl (keepF_dep [7, 6, 4] (by decide +kernel) rfl keepF_nil)), ?_⟩
      replace h := (kp_2 h)
      refine G_e 19 rfl (by decide +kernel) (N_bi rfl h ?_)
      intro v w h
      refine ⟨keepF_dep [18, 16] (by decide +kernel) rfl (keepF_dep [12, 11, 10] (by decide +kernel) rfl (keepF_dep [12, 7, 6, 4] (by decide +kernel) rfl keepF_nil)), ?_⟩
      refine G_p 20 rfl (by decide +kernel) (Y_nc h) ?_
      intro v h
      refine G_p 21 rfl (by decide +kernel) (Y_fa fo42_0 h) ?_
      intro v h
      refine G_e 22 rfl (by decide +kernel) (P_st on40 h ?_)
      intro w h
      refine ⟨keepF_dep [16] (by decide +kernel) rfl (keepF_dep [10] (by decide +kernel) rfl (keepF_dep [4] (by decide +kernel) rfl keepF_nil)), ?_⟩
      refine G_done (by decide +kernel) ?_
      show bodyPost Try.prog Try.f16 (Rt Q) .normal _ _
      exact post_tmps (ts := []) (.inl rfl) rfl h

/- (*factotum/factotumref18.Timers).Due -/
def f19_b2 (j1 : Value → Value → Value → M) (self2 : Value → Value → Value → Value → M) (t0_1 t1_1 t5 t6 : Value) : M :=
  nc t0_1 fun t9 =>
  fa 0 t9 fun t10 =>
  ld t10 fun t11 =>
  lnl t11 fun t12 =>
  lt .i64 t6 t12 fun t13 =>
  gd t13 true (idv t0_1) fun t15 =>
  gd t13 true (nc t15) fun t16 =>
  gd t13 true (fa 0 t16) fun t17 =>
  gd t13 true (ld t17) fun t18 =>
  gd t13 true (idv t6) fun t19 =>
  gd t13 true (ia 2 t18 t19) fun t20 =>
  gd t13 true (fa 1 t20) fun t21 =>
  gd t13 true (ld t21) fun t22 =>
  gd t13 true (idv t1_1) fun t23 =>
  gd t13 true (le .i64 t22 t23) fun t24 =>
  pk t13 t24 (.bool false) fun t25 =>
  cnd t25 (
    nc t0_1 fun t28 =>
    fa 0 t28 fun t29 =>
    ld t29 fun t30 =>
    ia 2 t30 t6 fun t32 =>
    fa 0 t32 fun t33 =>
    ld t33 fun t34 =>
    sm Try.prog (Instr.buildSlice 32 1 #[(0, t34)]) fun t35 =>
    sm Try.prog (Builtin.append_ #[32, 32] 32 #[t5, t35]) fun t36 =>
    ad .i64 t6 (.int .i64 1) fun t38 =>
    self2 t0_1 t1_1 t36 t38
    ) (
    j1 t0_1 t5 t6
    )
def f19_j1 (t0_2 t5_1 t6_1 : Value) : M :=
  nc t0_2 fun t41 =>
  fa 0 t41 fun t42 =>
  ld t42 fun t43 =>
  sll 2 t43 (some t6_1) none fun t45 =>
  nc t0_2 fun t46 =>
  fa 0 t46 fun t47 =>
  st t47 t45 <|
  rt t5_1
def f19 (t0 t1 : Value) : M :=
  jn (fun (j1 : Value → Value → Value → M) =>
    lo (fun _ _ _ _ => bot) (f19_b2 j1) (fun l => l t0 t1 (.slice none 0 0) (.int .i64 0))
    ) (f19_j1)
theorem s19 (t0 t1 : Value) (w : World) (Q : Value → World → Prop) (h : f19 t0 t1 w Q) : Calls Try.prog 19 #[t0, t1] w (Rt Q) := by
  refine calls_of (l := [t0, t1]) Try.func19 rfl Try.ntmps19 (Nat.le_of_ble_eq_true rfl) ?_
  unfold f19 at h
  refine wp_seq ?_
  refine L_region ?_
  refine L_as ?_
  refine L_nil ?_
  refine E_n ?_
  refine wp_seq ?_
  refine L_region ?_
  refine L_as ?_
  refine L_nil ?_
  refine E_n ?_
  refine wp_seq ?_
  refine L_region ?_
  refine L_as ?_
  refine L_nil ?_
  refine E_n ?_
  refine wp_seq ?_
  refine C_join (fun (k : Value → Value → Value → M) (ρ : Nat → Value) => k (ρ 0) (ρ 5) (ρ 6)) h (fun j1 J1 h => ?_) (fun ρ w h => ?_)
  · refine C_blk ?_
    refine C_lo (fun (l : Value → Value → Value → Value → M) (ρ : Nat → Value) => l (ρ 0) (ρ 1) (ρ 5) (ρ 6)) h (fun ρ w h => h) (fun nx self2 L2 ρ w h => ?_)
    unfold f19_b2 at h
    refine wp_seq ?_
    refine wp_seq ?_
    refine L_region ?_
    refine L_mv ?_
    refine L_mv ?_
    refine L_u (P_nc h) ?_
    intro v w h
    refine L_u (P_fa fo42_0 h) ?_
    intro v w h
    refine L_u (P_ld sc40 h) ?_
    intro v w h
    refine L_u (P_lnl is40 h) ?_
    intro v w h
    refine L_u (P_lt h) ?_
    intro v w h
    refine L_mv ?_
    refine L_g (t := 14) h rfl rfl (fun c h => P_mv h c) ?_
    intro v w h
    refine L_g (t := 14) h rfl rfl (fun c h => P_nc h c) ?_
    intro v w h
    refine L_g (t := 14) h rfl rfl (fun c h => P_fa fo42_0 h c) ?_
    intro v w h
    refine L_g (t := 14) h rfl rfl (fun c h => P_ld sc40 h c) ?_
    intro v w h
    refine L_g (t := 14) h rfl rfl (fun c h => P_mv h c) ?_
    intro v w h
    refine L_g (t := 14) h rfl rfl (fun c h => P_ia se40 h c) ?_
    intro v w h
    refine L_g (t := 14) h rfl rfl (fun c h => P_fa fo45_1 h c) ?_
    intro v w h
    refine L_g (t := 14) h rfl rfl (fun c h => P_ld sc2 h c) ?_
    intro v w h
    refine L_g (t := 14) h rfl rfl (fun c h => P_mv h c) ?_
    intro v w h
    refine L_g (t := 14) h rfl rfl (fun c h => P_le h c) ?_
    intro v w h
    refine L_u (P_pk h) ?_
    intro v w h
    refine L_nil ?_
    refine E_n ?_
    refine C_cnd h (fun h => ?_) (fun h => ?_)
    · refine C_skip ?_
      refine E_n ?_
      refine C_blk ?_
      refine wp_seq ?_
      refine L_region ?_
      refine L_mv ?_
      refine L_mv ?_
      refine L_u (P_nc h) ?_
      intro v w h
      refine L_u (P_fa fo42_0 h) ?_
      intro v w h
      refine L_u (P_ld sc40 h) ?_
      intro v w h
      refine L_mv ?_
      refine L_u (P_ia se40 h) ?_
      intro v w h
      refine L_u (P_fa fo45_0 h) ?_
      intro v w h
      refine L_u (P_ld sc3 h) ?_
      intro v w h
      refine L_u (N_bsl h) ?_
      intro v w h
      refine L_u (N_bi rfl h) ?_
      intro v w h
      refine L_as ?_
      refine L_nil ?_
      refine E_n ?_
      refine L_region ?_
      refine L_mv ?_
      refine L_u (P_ad h) ?_
      intro v w h
      refine L_as ?_
      refine L_nil ?_
      refine B_n ?_
      refine E_n ?_
      exact L2 _ _ h
    · refine C_exit ?_
      refine E_x ?_
      refine E_x ?_
      refine B_x ?_
      exact J1 _ _ h
  · unfold f19_j1 at h
    refine E_n ?_
    refine wp_seq ?_
    refine L_region ?_
    refine L_mv ?_
    refine L_mv ?_
    refine L_u (P_nc h) ?_
    intro v w h
    refine L_u (P_fa fo42_0 h) ?_
    intro v w h
    refine L_u (P_ld sc40 h) ?_
    intro v w h
    refine L_mv ?_
    refine L_u (P_sll se40 h) ?_
    intro v w h
    refine L_u (P_nc h) ?_
    intro v w h
    refine L_u (P_fa fo42_0 h) ?_
    intro v w h
    refine L_u (P_st on40 h) ?_
    intro w h
    refine L_nil ?_
    refine E_n ?_
    refine wp_seq ?_
    refine L_region ?_
    refine L_mv ?_
    refine L_as ?_
    refine L_nil ?_
    refine E_n ?_
    refine C_ret ?_
    show bodyPost Try.prog Try.f19 (Rt Q) .ret _ _
    exact post_tmps (ts := [4]) (.inr rfl) rfl h

/- (*factotum/timers.Timers).Till -/
def f20 (t0 t1 : Value) : M :=
  smr Try.prog (do eqGuard .eql 25 (.tmp 6) (.const (.pointer none)) t0 (.pointer none); binOp .eql 25 t0 (.pointer none)) fun t7 =>
  gd t7 false (idv t0) fun t9 =>
  gd t7 false (nc t9) fun t10 =>
  gd t7 false (fa 1 t10) fun t11 =>
  gd t7 false (ld t11) fun t12 =>
  gd t7 false (idv t1) fun t13 =>
  gd t7 false (smr Try.prog (Instr.lookup 50 t12 t13 false)) fun t14 =>
  gd t7 false (smr Try.prog (do eqGuard .eql 55 (.tmp 14) (.const (.pointer none)) t14 (.pointer none); binOp .eql 55 t14 (.pointer none))) fun t15 =>
  pk t7 (.bool true) t15 fun t16 =>
  cnd t16 (
    rt (.tuple #[(.int .i64 0), (.bool false)])
    ) (
    nc t0 fun t18 =>
    fa 1 t18 fun t19 =>
    ld t19 fun t20 =>
    smr Try.prog (Instr.lookup 50 t20 t1 false) fun t22 =>
    nc t22 fun t23 =>
    fa 1 t23 fun t24 =>
    ld t24 fun t25 =>
    rt (.tuple #[t25, (.bool true)])
    )
theorem s20 (t0 t1 : Value) (w : World) (Q : Value → World → Prop) (h : f20 t0 t1 w Q) : Calls Try.prog 20 #[t0, t1] w (Rt Q) := by
  refine calls_of (l := [t0, t1]) Try.func20 rfl Try.ntmps20 (Nat.le_of_ble_eq_true rfl) ?_
  unfold f20 at h
  refine wp_seq ?_
  refine L_region ?_
  refine L_as ?_
  refine L_as ?_
  refine L_nil ?_
  refine E_n ?_
  refine wp_seq ?_
  refine wp_seq ?_
  refine L_region ?_
  refine L_mv ?_
  refine L_u (P_smr rfl h) ?_
  intro v w h
  refine L_mv ?_
  refine L_g (t := 8) h rfl rfl (fun c h => P_mv h c) ?_
  intro v w h
  refine L_g (t := 8) h rfl rfl (fun c h => P_nc h c) ?_
  intro v w h
  refine L_g (t := 8) h rfl rfl (fun c h => P_fa fo54_1 h c) ?_
  intro v w h
  refine L_g (t := 8) h rfl rfl (fun c h => P_ld sc50 h c) ?_
  intro v w h
  refine L_g (t := 8) h rfl rfl (fun c h => P_mv h c) ?_
  intro v w h
  refine L_g (t := 8) h rfl rfl (fun c h => P_smr rfl h c) ?_
  intro v w h
  refine L_g (t := 8) h rfl rfl (fun c h => P_smr rfl h c) ?_
  intro v w h
  refine L_u (P_pk h) ?_
  intro v w h
  refine L_nil ?_
  refine E_n ?_
  refine C_cnd h (fun h => ?_) (fun h => ?_)
  · refine wp_seq ?_
    refine L_region ?_
    refine L_as ?_
    refine L_as ?_
    refine L_nil ?_
    refine E_n ?_
    refine C_ret ?_
    show bodyPost Try.prog Try.f20 (Rt Q) .ret _ _
    exact post_tmps (ts := [4, 5]) (.inr rfl) rfl h
  · refine C_skip ?_
    refine E_n ?_
    refine wp_seq ?_
    refine L_region ?_
    refine L_mv ?_
    refine L_u (P_nc h) ?_
    intro v w h
    refine L_u (P_fa fo54_1 h) ?_
    intro v w h
    refine L_u (P_ld sc50 h) ?_
    intro v w h
    refine L_mv ?_
    refine L_u (P_smr rfl h) ?_
    intro v w h
    refine L_u (P_nc h) ?_
    intro v w h
    refine L_u (P_fa fo58_1 h) ?_
    intro v w h
    refine L_u (P_ld sc2 h) ?_
    intro v w h
    refine L_as ?_
    refine L_as ?_
    refine L_nil ?_
    refine E_n ?_
    refine C_ret ?_
    show bodyPost Try.prog Try.f20 (Rt Q) .ret _ _
    exact post_tmps (ts := [4, 5]) (.inr rfl) rfl h

/- (*factotum/factotumref18.Timers).Till -/
def f21_b2 (j1 : M) (self2 : Value → Value → Value → M) (t0_1 t1_1 t6 : Value) : M :=
  nc t0_1 fun t9 =>
  fa 0 t9 fun t10 =>
  ld t10 fun t11 =>
  lnl t11 fun t12 =>
  lt .i64 t6 t12 fun t13 =>
  cnd t13 (
    nc t0_1 fun t17 =>
    fa 0 t17 fun t18 =>
    ld t18 fun t19 =>
    ia 2 t19 t6 fun t21 =>
    fa 0 t21 fun t22 =>
    ld t22 fun t23 =>
    eqi .i64 t23 t1_1 fun t25 =>
    cnd t25 (
      nc t0_1 fun t27 =>
      fa 0 t27 fun t28 =>
      ld t28 fun t29 =>
      ia 2 t29 t6 fun t31 =>
      fa 1 t31 fun t32 =>
      ld t32 fun t33 =>
      rt (.tuple #[t33, (.bool true)])
      ) (
      ad .i64 t6 (.int .i64 1) fun t15 =>
      self2 t0_1 t1_1 t15
      )
    ) (
    j1
    )
def f21_j1 : M :=
  rt (.tuple #[(.int .i64 0), (.bool false)])
def f21 (t0 t1 : Value) : M :=
  jn (fun (j1 : M) =>
    lo (fun _ _ _ => bot) (f21_b2 j1) (fun l => l t0 t1 (.int .i64 0))
    ) (f21_j1)
theorem s21 (t0 t1 : Value) (w : World) (Q : Value → World → Prop) (h : f21 t0 t1 w Q) : Calls Try.prog 21 #[t0, t1] w (Rt Q) := by
  refine calls_of (l := [t0, t1]) Try.func21 rfl Try.ntmps21 (Nat.le_of_ble_eq_true rfl) ?_
  unfold f21 at h
  refine wp_seq ?_
  refine L_region ?_
  refine L_as ?_
  refine L_as ?_
  refine L_nil ?_
  refine E_n ?_
  refine wp_seq ?_
  refine wp_seq ?_
  refine L_region ?_
  refine L_as ?_
  refine L_nil ?_
  refine E_n ?_
  refine C_join (fun (k : M) (ρ : Nat → Value) => k) h (fun j1 J1 h => ?_) (fun ρ w h => ?_)
  · refine C_blk ?_
    refine C_lo (fun (l : Value → Value → Value → M) (ρ : Nat → Value) => l (ρ 0) (ρ 1) (ρ 6)) h (fun ρ w h => h) (fun nx self2 L2 ρ w h => ?_)
    unfold f21_b2 at h
    refine wp_seq ?_
    refine wp_seq ?_
    refine L_region ?_
    refine L_mv ?_
    refine L_mv ?_
    refine L_u (P_nc h) ?_
    intro v w h
    refine L_u (P_fa fo42_0 h) ?_
    intro v w h
    refine L_u (P_ld sc40 h) ?_
    intro v w h
    refine L_u (P_lnl is40 h) ?_
    intro v w h
    refine L_u (P_lt h) ?_
    intro v w h
    refine L_nil ?_
    refine E_n ?_
    refine C_cnd h (fun h => ?_) (fun h => ?_)
    · refine C_skip ?_
      refine E_n ?_
      refine wp_seq ?_
      refine C_blk ?_
      refine wp_seq ?_
      refine L_region ?_
      refine L_mv ?_
      refine L_u (P_nc h) ?_
      intro v w h
      refine L_u (P_fa fo42_0 h) ?_
      intro v w h
      refine L_u (P_ld sc40 h) ?_
      intro v w h
      refine L_mv ?_
      refine L_u (P_ia se40 h) ?_
      intro v w h
      refine L_u (P_fa fo45_0 h) ?_
      intro v w h
      refine L_u (P_ld sc3 h) ?_
      intro v w h
      refine L_mv ?_
      refine L_u (P_eqi h) ?_
      intro v w h
      refine L_nil ?_
      refine E_n ?_
      refine C_cnd h (fun h => ?_) (fun h => ?_)
      · refine wp_seq ?_
        refine L_region ?_
        refine L_mv ?_
        refine L_u (P_nc h) ?_
        intro v w h
        refine L_u (P_fa fo42_0 h) ?_
        intro v w h
        refine L_u (P_ld sc40 h) ?_
        intro v w h
        refine L_mv ?_
        refine L_u (P_ia se40 h) ?_
        intro v w h
        refine L_u (P_fa fo45_1 h) ?_
        intro v w h
        refine L_u (P_ld sc2 h) ?_
        intro v w h
        refine L_as ?_
        refine L_as ?_
        refine L_nil ?_
        refine E_n ?_
        refine C_ret ?_
        show bodyPost Try.prog Try.f21 (Rt Q) .ret _ _
        exact post_tmps (ts := [4, 5]) (.inr rfl) rfl h
      · refine C_skip ?_
        refine B_n ?_
        refine E_n ?_
        refine L_region ?_
        refine L_mv ?_
        refine L_u (P_ad h) ?_
        intro v w h
        refine L_as ?_
        refine L_nil ?_
        refine E_n ?_
        exact L2 _ _ h
    · refine C_exit ?_
      refine E_x ?_
      refine E_x ?_
      refine B_x ?_
      exact J1 _ _ h
  · unfold f21_j1 at h
    refine E_n ?_
    refine wp_seq ?_
    refine L_region ?_
    refine L_as ?_
    refine L_as ?_
    refine L_nil ?_
    refine E_n ?_
    refine C_ret ?_
    show bodyPost Try.prog Try.f21 (Rt Q) .ret _ _
    exact post_tmps (ts := [4, 5]) (.inr rfl) rfl h

/- factotum/factotumlaw18.TimersPlay -/
def f5_j3 (self2 : Value → Value → Value → Value → Value → M) (t0_2 t1_2 t5_1 t6_1 t7_1 : Value) : M :=
  cl (f11 t5_1) fun t74 =>
  ex 0 t74 fun t75 =>
  ex 1 t74 fun t76 =>
  ex 2 t74 fun t77 =>
  dr <|
  idv t5_1 fun t78 =>
  idv t6_1 fun t80 =>
  nc t80 fun t81 =>
  fa 0 t81 fun t82 =>
  ld t82 fun t83 =>
  lnl t83 fun t84 =>
  cl (f13 t78) fun t79 =>
  kp (Kld t82 t83) <|
  nei .i64 t79 t84 fun t85 =>
  idv t85 fun t86 =>
  gd t86 false (idv t77) fun t87 =>
  gd t86 false (idv t6_1) fun t88 =>
  gd t86 false (nc t88) fun t89 =>
  gd t86 false (fa 0 t89) fun t90 =>
  gd t86 false (ld t90) fun t91 =>
  gd t86 false (lnl t91) fun t92 =>
  gd t86 false (gt .i64 t92 (.int .i64 0)) fun t93 =>
  gd t86 false (neb t87 t93) fun t94 =>
  pk t86 (.bool true) t94 fun t95 =>
  idv t95 fun t96 =>
  gd t96 false (idv t77) fun t97 =>
  gd t96 false (idv t97) fun t98 =>
  gd t98 true (idv t75) fun t99 =>
  gd t98 true (idv t6_1) fun t100 =>
  gd t98 true (nc t100) fun t101 =>
  gd t98 true (fa 0 t101) fun t102 =>
  gd t98 true (ld t102) fun t103 =>
  gd t98 true (ia 2 t103 (.int .i64 0)) fun t104 =>
  gd t98 true (fa 1 t104) fun t105 =>
  gd t98 true (ld t105) fun t106 =>
  gd t98 true (nei .i64 t99 t106) fun t107 =>
  gd t98 true (idv t107) fun t108 =>
  gd t108 false (idv t76) fun t109 =>
  gd t108 false (idv t6_1) fun t110 =>
  gd t108 false (nc t110) fun t111 =>
  gd t108 false (fa 0 t111) fun t112 =>
  gd t108 false (ld t112) fun t113 =>
  gd t108 false (ia 2 t113 (.int .i64 0)) fun t114 =>
  gd t108 false (fa 0 t114) fun t115 =>
  gd t108 false (ld t115) fun t116 =>
  gd t108 false (nei .i64 t109 t116) fun t117 =>
  gd t98 true (pk t108 (.bool true) t117) fun t118 =>
  gd t96 false (pk t98 t118 (.bool false)) fun t119 =>
  pk t96 (.bool true) t119 fun t120 =>
  cnd t120 (
    rt (.bool false)
    ) (
    ad .i64 t7_1 (.int .i64 1) fun t28 =>
    self2 t0_2 t1_2 t5_1 t6_1 t28
    )
def f5_b2 (j1 : Value → Value → Value → M) (self2 : Value → Value → Value → Value → Value → M) (t0_1 t1_1 t5 t6 t7 : Value) : M :=
  lnl t0_1 fun t25 =>
  lt .i64 t7 t25 fun t26 =>
  cnd t26 (
    ia 3 t0_1 t7 fun t31 =>
    ldn 3 t31 fun t32 =>
    al 28 #[(.int .i64 0), (.int .i64 0), (.int .i64 0)] fun t8 =>
    stn 3 t8 t32 <|
    ldn 3 t8 fun t33 =>
    cl (f14 t33) fun t34 =>
    eqi .i64 t34 (.int .i64 0) fun t36 =>
    jn (fun (j3 : Value → Value → Value → Value → Value → M) =>
      cnd t36 (
        fa 1 t8 fun t38 =>
        ld t38 fun t39 =>
        fa 2 t8 fun t40 =>
        ld t40 fun t41 =>
        cl (f10 t5 t39 t41) fun t42 =>
        fa 1 t8 fun t44 =>
        ld t44 fun t45 =>
        fa 2 t8 fun t46 =>
        ld t46 fun t47 =>
        cl (f16 t6 t45 t47) fun t48 =>
        j3 t0_1 t1_1 t5 t6 t7
        ) (
        eqi .i64 t34 (.int .i64 1) fun t50 =>
        cnd t50 (
          dr <|
          idv t5 fun t51 =>
          fa 1 t8 fun t52 =>
          ld t52 fun t53 =>
          idv t6 fun t55 =>
          fa 1 t8 fun t56 =>
          ld t56 fun t57 =>
          cl (f15 t51 t53) fun t54 =>
          kp (Kld t56 t57) <|
          cl (f17 t55 t57) fun t58 =>
          neb t54 t58 fun t59 =>
          cnd t59 (
            rt (.bool false)
            ) (
            j3 t0_1 t1_1 t5 t6 t7
            )
          ) (
          eqi .i64 t34 (.int .i64 2) fun t61 =>
          cnd t61 (
            dr <|
            idv t5 fun t62 =>
            fa 2 t8 fun t63 =>
            ld t63 fun t64 =>
            idv t6 fun t66 =>
            fa 2 t8 fun t67 =>
            ld t67 fun t68 =>
            cl (f12 t62 t64) fun t65 =>
            kp (Kld t67 t68) <|
            cl (f19 t66 t68) fun t69 =>
            cl (f18 t65 t69) fun t70 =>
            nt t70 fun t71 =>
            cnd t71 (
              rt (.bool false)
              ) (
              j3 t0_1 t1_1 t5 t6 t7
              )
            ) (
            j3 t0_1 t1_1 t5 t6 t7
            )
          )
        )
      ) (f5_j3 self2)
    ) (
    j1 t1_1 t5 t6
    )
def f5_j1 (t1_3 t5_2 t6_2 : Value) : M :=
  cl (f20 t5_2 t1_3) fun t124 =>
  ex 0 t124 fun t125 =>
  ex 1 t124 fun t126 =>
  cl (f21 t6_2 t1_3) fun t130 =>
  ex 0 t130 fun t131 =>
  ex 1 t130 fun t132 =>
  eqi .i64 t125 t131 fun t135 =>
  gd t135 true (idv t126) fun t137 =>
  gd t135 true (idv t132) fun t138 =>
  gd t135 true (eqb t137 t138) fun t139 =>
  pk t135 t139 (.bool false) fun t140 =>
  rt t140
def f5 (t0 t1 : Value) : M :=
  cl (f7) fun t16 =>
  nt t16 fun t17 =>
  cnd t17 (
    rt (.bool false)
    ) (
    cl (f8 t0) fun t19 =>
    cl (f9) fun t20 =>
    smr Try.prog (Instr.build 42 #[]) fun t21 =>
    bx 42 t21 fun t22 =>
    jn (fun (j1 : Value → Value → Value → M) =>
      lo (fun _ _ _ _ _ => bot) (f5_b2 j1) (fun l => l t19 t1 t20 t22 (.int .i64 0))
      ) (f5_j1)
    )
theorem s5 (t0 t1 : Value) (w : World) (Q : Value → World → Prop) (h : f5 t0 t1 w Q) : Calls Try.prog 5 #[t0, t1] w (Rt Q) := by
  refine calls_of (l := [t0, t1]) Try.func5 rfl Try.ntmps5 (Nat.le_of_ble_eq_true rfl) ?_
  unfold f5 at h
  refine wp_seq ?_
  refine L_region ?_
  refine L_as ?_
  refine L_nil ?_
  refine E_n ?_
  refine wp_seq ?_
  refine wp_seq ?_
  refine L_region ?_
  refine L_u (N_cl Try.func7 rfl nn7 (fun w Q h => s7 w Q h) h) ?_
  intro v w h
  refine L_u (P_nt h) ?_
  intro v w h
  refine L_nil ?_
  refine E_n ?_
  refine C_cnd h (fun h => ?_) (fun h => ?_)
  · refine wp_seq ?_
    refine L_region ?_
    refine L_as ?_
    refine L_nil ?_
    refine E_n ?_
    refine C_ret ?_
    show bodyPost Try.prog Try.f5 (Rt Q) .ret _ _
    exact post_tmps (ts := [4]) (.inr rfl) rfl h
  · refine C_skip ?_
    refine E_n ?_
    refine wp_seq ?_
    refine L_region ?_
    refine L_mv ?_
    refine L_u (N_cl Try.func8 rfl nn8 (fun w Q h => s8 _ w Q h) h) ?_
    intro v w h
    refine L_as ?_
    refine L_nil ?_
    refine E_n ?_
    refine wp_seq ?_
    refine L_region ?_
    refine L_u (N_cl Try.func9 rfl nn9 (fun w Q h => s9 w Q h) h) ?_
    intro v w h
    refine L_u (N_bld h) ?_
    intro v w h
    refine L_u (P_bx h) ?_
    intro v w h
    refine L_as ?_
    refine L_as ?_
    refine L_nil ?_
    refine E_n ?_
    refine wp_seq ?_
    refine wp_seq ?_
    refine L_region ?_
    refine L_as ?_
    refine L_nil ?_
    refine E_n ?_
    refine C_join (fun (k : Value → Value → Value → M) (ρ : Nat → Value) => k (ρ 1) (ρ 5) (ρ 6)) h (fun j1 J1 h => ?_) (fun ρ w h => ?_)
    · refine C_blk ?_
      refine C_lo (fun (l : Value → Value → Value → Value → Value → M) (ρ : Nat → Value) => l (ρ 0) (ρ 1) (ρ 5) (ρ 6) (ρ 7)) h (fun ρ w h => h) (fun nx self2 L2 ρ w h => ?_)
      unfold f5_b2 at h
      refine wp_seq ?_
      refine wp_seq ?_
      refine L_region ?_
      refine L_mv ?_
      refine L_mv ?_
      refine L_u (P_lnl is22 h) ?_
      intro v w h
      refine L_u (P_lt h) ?_
      intro v w h
      refine L_nil ?_
      refine E_n ?_
      refine C_cnd h (fun h => ?_) (fun h => ?_)
      · refine C_skip ?_
        refine E_n ?_
        refine wp_seq ?_
        refine C_blk ?_
        refine wp_seq ?_
        refine L_region ?_
        refine L_mv ?_
        refine L_mv ?_
        refine L_u (P_ia se22 h) ?_
        intro v w h
        refine L_u (P_ldn ag28 h) ?_
        intro v w h
        refine L_u (P_al ze28 rfl h) ?_
        intro v w h
        refine L_u (P_stn ag28 h) ?_
        intro w h
        refine L_nil ?_
        refine E_n ?_
        refine wp_seq ?_
        refine wp_seq ?_
        refine L_region ?_
        refine L_u (P_ldn ag28 h) ?_
        intro v w h
        refine L_u (N_cl Try.func14 rfl nn14 (fun w Q h => s14 _ w Q h) h) ?_
        intro v w h
        refine L_nil ?_
        refine E_n ?_
        refine C_blk ?_
        refine wp_seq ?_
        refine L_region ?_
        refine L_u (P_eqi h) ?_
        intro v w h
        refine L_as ?_
        refine L_nil ?_
        refine E_n ?_
        refine C_join (fun (k : Value → Value → Value → Value → Value → M) (ρ : Nat → Value) => k (ρ 0) (ρ 1) (ρ 5) (ρ 6) (ρ 7)) h (fun j3 J3 h => ?_) (fun ρ w h => ?_)
        · refine C_cnd h (fun h => ?_) (fun h => ?_)
          · refine wp_seq ?_
            refine L_region ?_
            refine L_mv ?_
            refine L_u (P_fa fo28_1 h) ?_
            intro v w h
            refine L_u (P_ld sc3 h) ?_
            intro v w h
            refine L_u (P_fa fo28_2 h) ?_
            intro v w h
            refine L_u (P_ld sc2 h) ?_
            intro v w h
            refine L_u (N_cl Try.func10 rfl nn10 (fun w Q h => s10 _ _ _ w Q h) h) ?_
            intro v w h
            refine L_nil ?_
            refine E_n ?_
            refine L_region ?_
            refine L_mv ?_
            refine L_u (P_fa fo28_1 h) ?_
            intro v w h
            refine L_u (P_ld sc3 h) ?_
            intro v w h
            refine L_u (P_fa fo28_2 h) ?_
            intro v w h
            refine L_u (P_ld sc2 h) ?_
            intro v w h
            refine L_u (N_cl Try.func16 rfl nn16 (fun w Q h => s16 _ _ _ w Q h) h) ?_
            intro v w h
            refine L_nil ?_
            exact J3 _ _ h
          · refine wp_seq ?_
            refine L_region ?_
            refine L_u (P_eqi h) ?_
            intro v w h
            refine L_as ?_
            refine L_nil ?_
            refine E_n ?_
            refine C_cnd h (fun h => ?_) (fun h => ?_)
            · refine wp_seq ?_
              refine D_region (by decide +kernel) 9 rfl ?_
              replace h := dr_e h
              refine G_p 0 rfl (by decide +kernel) (Y_mv h) ?_
              intro v h
              refine G_p 1 rfl (by decide +kernel) (Y_fa fo28_1 h) ?_
              intro v h
              refine G_r _ 2 rfl (by decide +kernel) (R_ld sc3 h) ?_
              intro v h
              refine G_p 4 rfl (by decide +kernel) (Y_mv h) ?_
              intro v h
              refine G_p 5 rfl (by decide +kernel) (Y_fa fo28_1 h) ?_
              intro v h
              refine G_r _ 6 rfl (by decide +kernel) (R_ld sc3 h) ?_
              intro v h
              refine G_e 3 rfl (by decide +kernel) (N_cl Try.func15 rfl nn15 (fun w Q h => s15 _ _ w Q h) h ?_)
              intro v w h
              refine ⟨keepF_cons (kp_1 h) (keepF_dep [2] (by decide +kernel) rfl keepF_nil), ?_⟩
              replace h := (kp_2 h)
              refine G_e 7 rfl (by decide +kernel) (N_cl Try.func17 rfl nn17 (fun w Q h => s17 _ _ w Q h) h ?_)
              intro v w h
              refine ⟨keepF_dep [6] (by decide +kernel) rfl (keepF_dep [3, 2] (by decide +kernel) rfl keepF_nil), ?_⟩
              refine G_p 8 rfl (by decide +kernel) (Y_neb bo4 h) ?_
              intro v h
              refine G_done (by decide +kernel) ?_
              refine E_n ?_
              refine C_cnd h (fun h => ?_) (fun h => ?_)
              · refine wp_seq ?_
                refine L_region ?_
                refine L_as ?_
                refine L_nil ?_
                refine E_n ?_
                refine C_ret ?_
                show bodyPost Try.prog Try.f5 (Rt Q) .ret _ _
                exact post_tmps (ts := [4]) (.inr rfl) rfl h
              · refine C_skip ?_
                exact J3 _ _ h
            · refine wp_seq ?_
              refine L_region ?_
              refine L_u (P_eqi h) ?_
              intro v w h
              refine L_as ?_
              refine L_nil ?_
              refine E_n ?_
              refine C_cnd h (fun h => ?_) (fun h => ?_)
              · refine wp_seq ?_
                refine D_region (by decide +kernel) 10 rfl ?_
                replace h := dr_e h
                refine G_p 0 rfl (by decide +kernel) (Y_mv h) ?_
                intro v h
                refine G_p 1 rfl (by decide +kernel) (Y_fa fo28_2 h) ?_
                intro v h
                refine G_r _ 2 rfl (by decide +kernel) (R_ld sc2 h) ?_
                intro v h
                refine G_p 4 rfl (by decide +kernel) (Y_mv h) ?_
                intro v h
                refine G_p 5 rfl (by decide +kernel) (Y_fa fo28_2 h) ?_
                intro v h
                refine G_r _ 6 rfl (by decide +kernel) (R_ld sc2 h) ?_
                intro v h
                refine G_e 3 rfl (by decide +kernel) (N_cl Try.func12 rfl nn12 (fun w Q h => s12 _ _ w Q h) h ?_)
                intro v w h
                refine ⟨keepF_cons (kp_1 h) (keepF_dep [2] (by decide +kernel) rfl keepF_nil), ?_⟩
                replace h := (kp_2 h)
                refine G_e 7 rfl (by decide +kernel) (N_cl Try.func19 rfl nn19 (fun w Q h => s19 _ _ w Q h) h ?_)
                intro v w h
                refine ⟨keepF_dep [6] (by decide +kernel) rfl (keepF_dep [3, 2] (by decide +kernel) rfl keepF_nil), ?_⟩
                refine G_e 8 rfl (by decide +kernel) (N_cl Try.func18 rfl nn18 (fun w Q h => s18 _ _ w Q h) h ?_)
                intro v w h
                refine ⟨keepF_dep [7, 6] (by decide +kernel) rfl (keepF_dep [3, 2] (by decide +kernel) rfl keepF_nil), ?_⟩
                refine G_p 9 rfl (by decide +kernel) (Y_nt h) ?_
                intro v h
                refine G_done (by decide +kernel) ?_
                refine E_n ?_
                refine C_cnd h (fun h => ?_) (fun h => ?_)
                · refine wp_seq ?_
                  refine L_region ?_
                  refine L_as ?_
                  refine L_nil ?_
                  refine E_n ?_
                  refine C_ret ?_
                  show bodyPost Try.prog Try.f5 (Rt Q) .ret _ _
                  exact post_tmps (ts := [4]) (.inr rfl) rfl h
                · refine C_skip ?_
                  exact J3 _ _ h
              · refine C_skip ?_
                exact J3 _ _ h
        · unfold f5_j3 at h
          refine B_n ?_
          refine E_n ?_
          refine wp_seq ?_
          refine L_region ?_
          refine L_mv ?_
          refine L_u (N_cl Try.func11 rfl nn11 (fun w Q h => s11 _ w Q h) h) ?_
          intro v w h
          refine L_mv ?_
          refine L_u (P_ex h) ?_
          intro v w h
          refine L_u (P_ex h) ?_
          intro v w h
          refine L_u (P_ex h) ?_
          intro v w h
          refine L_as ?_
          refine L_as ?_
          refine L_as ?_
          refine L_nil ?_
          refine E_n ?_
          refine wp_seq ?_
          refine D_region (by decide +kernel) 43 rfl ?_
          replace h := dr_e h
          refine G_p 0 rfl (by decide +kernel) (Y_mv h) ?_
          intro v h
          refine G_p 2 rfl (by decide +kernel) (Y_mv h) ?_
          intro v h
          refine G_p 3 rfl (by decide +kernel) (Y_nc h) ?_
          intro v h
          refine G_p 4 rfl (by decide +kernel) (Y_fa fo42_0 h) ?_
          intro v h
          refine G_r _ 5 rfl (by decide +kernel) (R_ld sc40 h) ?_
          intro v h
          refine G_p 6 rfl (by decide +kernel) (Y_lnl is40 h) ?_
          intro v h
          refine G_e 1 rfl (by decide +kernel) (N_cl Try.func13 rfl nn13 (fun w Q h => s13 _ w Q h) h ?_)
          intro v w h
          refine ⟨keepF_cons (kp_1 h) keepF_nil, ?_⟩
          replace h := (kp_2 h)
          refine G_p 7 rfl (by decide +kernel) (Y_nei h) ?_
          intro v h
          refine G_p 8 rfl (by decide +kernel) (Y_mv h) ?_
          intro v h
          refine G_pg (t := 86) 9 rfl (by decide +kernel) h rfl rfl (fun h => Y_mv h) ?_
          intro v h
          refine G_pg (t := 86) 10 rfl (by decide +kernel) h rfl rfl (fun h => Y_mv h) ?_
          intro v h
          refine G_pg (t := 86) 11 rfl (by decide +kernel) h rfl rfl (fun h => Y_nc h) ?_
          intro v h
          refine G_pg (t := 86) 12 rfl (by decide +kernel) h rfl rfl (fun h => Y_fa fo42_0 h) ?_
          intro v h
          refine G_rg (t := 86) _ 13 rfl (by decide +kernel) h rfl rfl (fun h => R_ld sc40 h) ?_
          intro v h
          refine G_pg (t := 86) 14 rfl (by decide +kernel) h rfl rfl (fun h => Y_lnl is40 h) ?_
          intro v h
          refine G_pg (t := 86) 15 rfl (by decide +kernel) h rfl rfl (fun h => Y_gt h) ?_
          intro v h
          refine G_pg (t := 86) 16 rfl (by decide +kernel) h rfl rfl (fun h => Y_neb bo4 h) ?_
          intro v h
          refine G_p 17 rfl (by decide +kernel) (Y_pk h) ?_
          intro v h
          refine G_p 18 rfl (by decide +kernel) (Y_mv h) ?_
          intro v h
          refine G_pg (t := 96) 19 rfl (by decide +kernel) h rfl rfl (fun h => Y_mv h) ?_
          intro v h
          refine G_pg (t := 96) 20 rfl (by decide +kernel) h rfl rfl (fun h => Y_mv h) ?_
          intro v h
          refine G_pg (t := 98) 21 rfl (by decide +kernel) h rfl rfl (fun h => Y_mv h) ?_
          intro v h
          refine G_pg (t := 98) 22 rfl (by decide +kernel) h rfl rfl (fun h => Y_mv h) ?_
          intro v h
          refine G_pg (t := 98) 23 rfl (by decide +kernel) h rfl rfl (fun h => Y_nc h) ?_
          intro v h
          refine G_pg (t := 98) 24 rfl (by decide +kernel) h rfl rfl (fun h => Y_fa fo42_0 h) ?_
          intro v h
          refine G_rg (t := 98) _ 25 rfl (by decide +kernel) h rfl rfl (fun h => R_ld sc40 h) ?_
          intro v h
          refine G_pg (t := 98) 26 rfl (by decide +kernel) h rfl rfl (fun h => Y_ia se40 h) ?_
          intro v h
          refine G_pg (t := 98) 27 rfl (by decide +kernel) h rfl rfl (fun h => Y_fa fo45_1 h) ?_
          intro v h
          refine G_rg (t := 98) _ 28 rfl (by decide +kernel) h rfl rfl (fun h => R_ld sc2 h) ?_
          intro v h
          refine G_pg (t := 98) 29 rfl (by decide +kernel) h rfl rfl (fun h => Y_nei h) ?_
          intro v h
          refine G_pg (t := 98) 30 rfl (by decide +kernel) h rfl rfl (fun h => Y_mv h) ?_
          intro v h
          refine G_pg (t := 108) 31 rfl (by decide +kernel) h rfl rfl (fun h => Y_mv h) ?_
          intro v h
          refine G_pg (t := 108) 32 rfl (by decide +kernel) h rfl rfl (fun h => Y_mv h) ?_
          intro v h
          refine G_pg (t := 108) 33 rfl (by decide +kernel) h rfl rfl (fun h => Y_nc h) ?_
          intro v h
          refine G_pg (t := 108) 34 rfl (by decide +kernel) h rfl rfl (fun h => Y_fa fo42_0 h) ?_
          intro v h
          refine G_rg (t := 108) _ 35 rfl (by decide +kernel) h rfl rfl (fun h => R_ld sc40 h) ?_
          intro v h
          refine G_pg (t := 108) 36 rfl (by decide +kernel) h rfl rfl (fun h => Y_ia se40 h) ?_
          intro v h
          refine G_pg (t := 108) 37 rfl (by decide +kernel) h rfl rfl (fun h => Y_fa fo45_0 h) ?_
          intro v h
          refine G_rg (t := 108) _ 38 rfl (by decide +kernel) h rfl rfl (fun h => R_ld sc3 h) ?_
          intro v h
          refine G_pg (t := 108) 39 rfl (by decide +kernel) h rfl rfl (fun h => Y_nei h) ?_
          intro v h
          refine G_pg (t := 98) 40 rfl (by decide +kernel) h rfl rfl (fun h => Y_pk h) ?_
          intro v h
          refine G_pg (t := 96) 41 rfl (by decide +kernel) h rfl rfl (fun h => Y_pk h) ?_
          intro v h
          refine G_p 42 rfl (by decide +kernel) (Y_pk h) ?_
          intro v h
          refine G_done (by decide +kernel) ?_
          refine E_n ?_
          refine C_cnd h (fun h => ?_) (fun h => ?_)
          · refine wp_seq ?_
            refine L_region ?_
            refine L_as ?_
            refine L_nil ?_
            refine E_n ?_
            refine C_ret ?_
            show bodyPost Try.prog Try.f5 (Rt Q) .ret _ _
            exact post_tmps (ts := [4]) (.inr rfl) rfl h
          · refine C_skip ?_
            refine B_n ?_
            refine E_n ?_
            refine L_region ?_
            refine L_mv ?_
            refine L_u (P_ad h) ?_
            intro v w h
            refine L_as ?_
            refine L_nil ?_
            refine E_n ?_
            exact L2 _ _ h
      · refine C_exit ?_
        refine E_x ?_
        refine E_x ?_
        refine B_x ?_
        exact J1 _ _ h
    · unfold f5_j1 at h
      refine E_n ?_
      refine wp_seq ?_
      refine L_region ?_
      refine L_mv ?_
      refine L_mv ?_
      refine L_u (N_cl Try.func20 rfl nn20 (fun w Q h => s20 _ _ w Q h) h) ?_
      intro v w h
      refine L_mv ?_
      refine L_u (P_ex h) ?_
      intro v w h
      refine L_u (P_ex h) ?_
      intro v w h
      refine L_as ?_
      refine L_as ?_
      refine L_nil ?_
      refine E_n ?_
      refine wp_seq ?_
      refine L_region ?_
      refine L_mv ?_
      refine L_mv ?_
      refine L_u (N_cl Try.func21 rfl nn21 (fun w Q h => s21 _ _ w Q h) h) ?_
      intro v w h
      refine L_mv ?_
      refine L_u (P_ex h) ?_
      intro v w h
      refine L_u (P_ex h) ?_
      intro v w h
      refine L_as ?_
      refine L_as ?_
      refine L_nil ?_
      refine E_n ?_
      refine wp_seq ?_
      refine L_region ?_
      refine L_mv ?_
      refine L_mv ?_
      refine L_u (P_eqi h) ?_
      intro v w h
      refine L_mv ?_
      refine L_g (t := 136) h rfl rfl (fun c h => P_mv h c) ?_
      intro v w h
      refine L_g (t := 136) h rfl rfl (fun c h => P_mv h c) ?_
      intro v w h
      refine L_g (t := 136) h rfl rfl (fun c h => P_eqb bo4 h c) ?_
      intro v w h
      refine L_u (P_pk h) ?_
      intro v w h
      refine L_as ?_
      refine L_nil ?_
      refine E_n ?_
      refine C_ret ?_
      show bodyPost Try.prog Try.f5 (Rt Q) .ret _ _
      exact post_tmps (ts := [4]) (.inr rfl) rfl h

/- factotum/factotumlaw18.TimersNil -/
def f6 (t0 t1 : Value) : M :=
  cl (f7) fun t11 =>
  nt t11 fun t12 =>
  cnd t12 (
    rt (.bool false)
    ) (
    cl (f10 (.pointer none) t0 t1) fun t16 =>
    cl (f11 (.pointer none)) fun t19 =>
    ex 0 t19 fun t20 =>
    ex 1 t19 fun t21 =>
    ex 2 t19 fun t22 =>
    cl (f20 (.pointer none) t0) fun t26 =>
    ex 0 t26 fun t27 =>
    ex 1 t26 fun t28 =>
    cl (f15 (.pointer none) t0) fun t31 =>
    nt t31 fun t32 =>
    gd t32 true (idv (.pointer none)) fun t34 =>
    gd t32 true (idv t1) fun t35 =>
    gd t32 true (cl (f12 t34 t35)) fun t36 =>
    gd t32 true (lnl t36) fun t37 =>
    gd t32 true (eqi .i64 t37 (.int .i64 0)) fun t38 =>
    pk t32 t38 (.bool false) fun t39 =>
    gd t39 true (idv t22) fun t41 =>
    gd t39 true (nt t41) fun t42 =>
    pk t39 t42 (.bool false) fun t43 =>
    gd t43 true (idv t28) fun t45 =>
    gd t43 true (nt t45) fun t46 =>
    pk t43 t46 (.bool false) fun t47 =>
    gd t47 true (idv (.pointer none)) fun t49 =>
    gd t47 true (cl (f13 t49)) fun t50 =>
    gd t47 true (eqi .i64 t50 (.int .i64 0)) fun t51 =>
    pk t47 t51 (.bool false) fun t52 =>
    rt t52
    )
theorem s6 (t0 t1 : Value) (w : World) (Q : Value → World → Prop) (h : f6 t0 t1 w Q) : Calls Try.prog 6 #[t0, t1] w (Rt Q) := by
  refine calls_of (l := [t0, t1]) Try.func6 rfl Try.ntmps6 (Nat.le_of_ble_eq_true rfl) ?_
  unfold f6 at h
  refine wp_seq ?_
  refine L_region ?_
  refine L_as ?_
  refine L_nil ?_
  refine E_n ?_
  refine wp_seq ?_
  refine wp_seq ?_
  refine L_region ?_
  refine L_u (N_cl Try.func7 rfl nn7 (fun w Q h => s7 w Q h) h) ?_
  intro v w h
  refine L_u (P_nt h) ?_
  intro v w h
  refine L_nil ?_
  refine E_n ?_
  refine C_cnd h (fun h => ?_) (fun h => ?_)
  · refine wp_seq ?_
    refine L_region ?_
    refine L_as ?_
    refine L_nil ?_
    refine E_n ?_
    refine C_ret ?_
    show bodyPost Try.prog Try.f6 (Rt Q) .ret _ _
    exact post_tmps (ts := [4]) (.inr rfl) rfl h
  · refine C_skip ?_
    refine E_n ?_
    refine wp_seq ?_
    refine L_region ?_
    refine L_as ?_
    refine L_nil ?_
    refine E_n ?_
    refine wp_seq ?_
    refine L_region ?_
    refine L_mv ?_
    refine L_mv ?_
    refine L_mv ?_
    refine L_u (N_cl Try.func10 rfl nn10 (fun w Q h => s10 _ _ _ w Q h) h) ?_
    intro v w h
    refine L_nil ?_
    refine E_n ?_
    refine wp_seq ?_
    refine L_region ?_
    refine L_mv ?_
    refine L_u (N_cl Try.func11 rfl nn11 (fun w Q h => s11 _ w Q h) h) ?_
    intro v w h
    refine L_mv ?_
    refine L_u (P_ex h) ?_
    intro v w h
    refine L_u (P_ex h) ?_
    intro v w h
    refine L_u (P_ex h) ?_
    intro v w h
    refine L_as ?_
    refine L_as ?_
    refine L_as ?_
    refine L_nil ?_
    refine E_n ?_
    refine wp_seq ?_
    refine L_region ?_
    refine L_mv ?_
    refine L_mv ?_
    refine L_u (N_cl Try.func20 rfl nn20 (fun w Q h => s20 _ _ w Q h) h) ?_
    intro v w h
    refine L_mv ?_
    refine L_u (P_ex h) ?_
    intro v w h
    refine L_u (P_ex h) ?_
    intro v w h
    refine L_as ?_
    refine L_as ?_
    refine L_nil ?_
    refine E_n ?_
    refine wp_seq ?_
    refine L_region ?_
    refine L_mv ?_
    refine L_mv ?_
    refine L_u (N_cl Try.func15 rfl nn15 (fun w Q h => s15 _ _ w Q h) h) ?_
    intro v w h
    refine L_u (P_nt h) ?_
    intro v w h
    refine L_mv ?_
    refine L_g (t := 33) h rfl rfl (fun c h => P_mv h c) ?_
    intro v w h
    refine L_g (t := 33) h rfl rfl (fun c h => P_mv h c) ?_
    intro v w h
    refine L_g (t := 33) h rfl rfl (fun c h => N_cl Try.func12 rfl nn12 (fun w Q h => s12 _ _ w Q h) h c) ?_
    intro v w h
    refine L_g (t := 33) h rfl rfl (fun c h => P_lnl is32 h c) ?_
    intro v w h
    refine L_g (t := 33) h rfl rfl (fun c h => P_eqi h c) ?_
    intro v w h
    refine L_u (P_pk h) ?_
    intro v w h
    refine L_mv ?_
    refine L_g (t := 40) h rfl rfl (fun c h => P_mv h c) ?_
    intro v w h
    refine L_g (t := 40) h rfl rfl (fun c h => P_nt h c) ?_
    intro v w h
    refine L_u (P_pk h) ?_
    intro v w h
    refine L_mv ?_
    refine L_g (t := 44) h rfl rfl (fun c h => P_mv h c) ?_
    intro v w h
    refine L_g (t := 44) h rfl rfl (fun c h => P_nt h c) ?_
    intro v w h
    refine L_u (P_pk h) ?_
    intro v w h
    refine L_mv ?_
    refine L_g (t := 48) h rfl rfl (fun c h => P_mv h c) ?_
    intro v w h
    refine L_g (t := 48) h rfl rfl (fun c h => N_cl Try.func13 rfl nn13 (fun w Q h => s13 _ w Q h) h c) ?_
    intro v w h
    refine L_g (t := 48) h rfl rfl (fun c h => P_eqi h c) ?_
    intro v w h
    refine L_u (P_pk h) ?_
    intro v w h
    refine L_as ?_
    refine L_nil ?_
    refine E_n ?_
    refine C_ret ?_
    show bodyPost Try.prog Try.f6 (Rt Q) .ret _ _
    exact post_tmps (ts := [4]) (.inr rfl) rfl h

/- (factotum/timers.queue).Len -/
def f44 (t0 : Value) : M :=
  lnl t0 fun t4 =>
  rt t4
theorem s44 (t0 : Value) (w : World) (Q : Value → World → Prop) (h : f44 t0 w Q) : Calls Try.prog 44 #[t0] w (Rt Q) := by
  refine calls_of (l := [t0]) Try.func44 rfl Try.ntmps44 (Nat.le_of_ble_eq_true rfl) ?_
  unfold f44 at h
  refine wp_seq ?_
  refine L_region ?_
  refine L_as ?_
  refine L_nil ?_
  refine E_n ?_
  refine wp_seq ?_
  refine L_region ?_
  refine L_mv ?_
  refine L_u (P_lnl is52 h) ?_
  intro v w h
  refine L_as ?_
  refine L_nil ?_
  refine E_n ?_
  refine C_ret ?_
  show bodyPost Try.prog Try.f44 (Rt Q) .ret _ _
  exact post_tmps (ts := [2]) (.inr rfl) rfl h

/- cmp.Or[int] -/
def f47_b2 (j1 : Value → M) (self2 : Value → Value → Value → Value → M) (t3 t6 t7_1 t8 : Value) : M :=
  lt .i64 t8 t7_1 fun t9 =>
  cnd t9 (
    ia 1 t6 t8 fun t10 =>
    ld t10 fun t11 =>
    nei .i64 t11 t3 fun t14 =>
    cnd t14 (
      rt t11
      ) (
      ad .i64 t8 (.int .i64 1) fun t16 =>
      self2 t3 t6 t7_1 t16
      )
    ) (
    j1 t3
    )
def f47_j1 (t3_1 : Value) : M :=
  rt t3_1
def f47 (t0 : Value) : M :=
  lnl t0 fun t7 =>
  jn (fun (j1 : Value → M) =>
    lo (fun _ _ _ _ => bot) (f47_b2 j1) (fun l => l (.int .i64 0) t0 t7 (.int .i64 0))
    ) (f47_j1)
theorem s47 (t0 : Value) (w : World) (Q : Value → World → Prop) (h : f47 t0 w Q) : Calls Try.prog 47 #[t0] w (Rt Q) := by
  refine calls_of (l := [t0]) Try.func47 rfl Try.ntmps47 (Nat.le_of_ble_eq_true rfl) ?_
  unfold f47 at h
  refine wp_seq ?_
  refine L_region ?_
  refine L_as ?_
  refine L_nil ?_
  refine E_n ?_
  refine wp_seq ?_
  refine L_region ?_
  refine L_as ?_
  refine L_nil ?_
  refine E_n ?_
  refine wp_seq ?_
  refine wp_seq ?_
  refine L_region ?_
  refine L_mv ?_
  refine L_u (P_lnl is32 h) ?_
  intro v w h
  refine L_mv ?_
  refine L_nil ?_
  refine E_n ?_
  refine C_join (fun (k : Value → M) (ρ : Nat → Value) => k (ρ 3)) h (fun j1 J1 h => ?_) (fun ρ w h => ?_)
  · refine C_blk ?_
    refine C_lo (fun (l : Value → Value → Value → Value → M) (ρ : Nat → Value) => l (ρ 3) (ρ 6) (ρ 7) (ρ 8)) h (fun ρ w h => h) (fun nx self2 L2 ρ w h => ?_)
    unfold f47_b2 at h
    refine wp_seq ?_
    refine L_region ?_
    refine L_u (P_lt h) ?_
    intro v w h
    refine L_nil ?_
    refine E_n ?_
    refine wp_seq ?_
    refine C_cnd h (fun h => ?_) (fun h => ?_)
    · refine C_skip ?_
      refine E_n ?_
      refine wp_seq ?_
      refine C_blk ?_
      refine wp_seq ?_
      refine L_region ?_
      refine L_u (P_ia se32 h) ?_
      intro v w h
      refine L_u (P_ld sc3 h) ?_
      intro v w h
      refine L_as ?_
      refine L_nil ?_
      refine E_n ?_
      refine wp_seq ?_
      refine L_region ?_
      refine L_mv ?_
      refine L_mv ?_
      refine L_u (P_nei h) ?_
      intro v w h
      refine L_nil ?_
      refine E_n ?_
      refine C_cnd h (fun h => ?_) (fun h => ?_)
      · refine wp_seq ?_
        refine L_region ?_
        refine L_mv ?_
        refine L_as ?_
        refine L_nil ?_
        refine E_n ?_
        refine C_ret ?_
        show bodyPost Try.prog Try.f47 (Rt Q) .ret _ _
        exact post_tmps (ts := [2]) (.inr rfl) rfl h
      · refine C_skip ?_
        refine B_n ?_
        refine E_n ?_
        refine L_region ?_
        refine L_u (P_ad h) ?_
        intro v w h
        refine L_mv ?_
        refine L_nil ?_
        refine E_n ?_
        exact L2 _ _ h
    · refine C_exit ?_
      refine E_x ?_
      refine E_x ?_
      refine B_x ?_
      exact J1 _ _ h
  · unfold f47_j1 at h
    refine E_n ?_
    refine wp_seq ?_
    refine L_region ?_
    refine L_mv ?_
    refine L_as ?_
    refine L_nil ?_
    refine E_n ?_
    refine C_ret ?_
    show bodyPost Try.prog Try.f47 (Rt Q) .ret _ _
    exact post_tmps (ts := [2]) (.inr rfl) rfl h

/- cmp.isNaN[int64] -/
def f50 (t0 : Value) : M :=
  nei .i64 t0 t0 fun t5 =>
  rt t5
theorem s50 (t0 : Value) (w : World) (Q : Value → World → Prop) (h : f50 t0 w Q) : Calls Try.prog 50 #[t0] w (Rt Q) := by
  refine calls_of (l := [t0]) Try.func50 rfl Try.ntmps50 (Nat.le_of_ble_eq_true rfl) ?_
  unfold f50 at h
  refine wp_seq ?_
  refine L_region ?_
  refine L_as ?_
  refine L_nil ?_
  refine E_n ?_
  refine wp_seq ?_
  refine L_region ?_
  refine L_mv ?_
  refine L_mv ?_
  refine L_u (P_nei h) ?_
  intro v w h
  refine L_as ?_
  refine L_nil ?_
  refine E_n ?_
  refine C_ret ?_
  show bodyPost Try.prog Try.f50 (Rt Q) .ret _ _
  exact post_tmps (ts := [2]) (.inr rfl) rfl h

/- cmp.Compare[int64] -/
def f48 (t0 t1 : Value) : M :=
  cl (f50 t0) fun t8 =>
  cl (f50 t1) fun t10 =>
  cnd t8 (
    cnd t10 (
      rt (.int .i64 0)
      ) (
      rt (.int .i64 (-1))
      )
    ) (
    cnd t10 (
      rt (.int .i64 1)
      ) (
      lt .i64 t0 t1 fun t16 =>
      cnd t16 (
        rt (.int .i64 (-1))
        ) (
        gt .i64 t0 t1 fun t19 =>
        cnd t19 (
          rt (.int .i64 1)
          ) (
          rt (.int .i64 0)
          )
        )
      )
    )
theorem s48 (t0 t1 : Value) (w : World) (Q : Value → World → Prop) (h : f48 t0 t1 w Q) : Calls Try.prog 48 #[t0, t1] w (Rt Q) := by
  refine calls_of (l := [t0, t1]) Try.func48 rfl Try.ntmps48 (Nat.le_of_ble_eq_true rfl) ?_
  unfold f48 at h
  refine wp_seq ?_
  refine L_region ?_
  refine L_as ?_
  refine L_nil ?_
  refine E_n ?_
  refine wp_seq ?_
  refine L_region ?_
  refine L_mv ?_
  refine L_u (N_cl Try.func50 rfl nn50 (fun w Q h => s50 _ w Q h) h) ?_
  intro v w h
  refine L_as ?_
  refine L_nil ?_
  refine E_n ?_
  refine wp_seq ?_
  refine L_region ?_
  refine L_mv ?_
  refine L_u (N_cl Try.func50 rfl nn50 (fun w Q h => s50 _ w Q h) h) ?_
  intro v w h
  refine L_as ?_
  refine L_nil ?_
  refine E_n ?_
  refine wp_seq ?_
  refine wp_seq ?_
  refine L_region ?_
  refine L_mv ?_
  refine L_nil ?_
  refine E_n ?_
  refine C_cnd h (fun h => ?_) (fun h => ?_)
  · refine wp_seq ?_
    refine wp_seq ?_
    refine L_region ?_
    refine L_mv ?_
    refine L_nil ?_
    refine E_n ?_
    refine C_cnd h (fun h => ?_) (fun h => ?_)
    · refine wp_seq ?_
      refine L_region ?_
      refine L_as ?_
      refine L_nil ?_
      refine E_n ?_
      refine C_ret ?_
      show bodyPost Try.prog Try.f48 (Rt Q) .ret _ _
      exact post_tmps (ts := [4]) (.inr rfl) rfl h
    · refine C_skip ?_
      refine E_n ?_
      refine wp_seq ?_
      refine L_region ?_
      refine L_as ?_
      refine L_nil ?_
      refine E_n ?_
      refine C_ret ?_
      show bodyPost Try.prog Try.f48 (Rt Q) .ret _ _
      exact post_tmps (ts := [4]) (.inr rfl) rfl h
  · refine C_skip ?_
    refine E_n ?_
    refine wp_seq ?_
    refine wp_seq ?_
    refine L_region ?_
    refine L_mv ?_
    refine L_nil ?_
    refine E_n ?_
    refine C_cnd h (fun h => ?_) (fun h => ?_)
    · refine wp_seq ?_
      refine L_region ?_
      refine L_as ?_
      refine L_nil ?_
      refine E_n ?_
      refine C_ret ?_
      show bodyPost Try.prog Try.f48 (Rt Q) .ret _ _
      exact post_tmps (ts := [4]) (.inr rfl) rfl h
    · refine C_skip ?_
      refine E_n ?_
      refine wp_seq ?_
      refine wp_seq ?_
      refine L_region ?_
      refine L_mv ?_
      refine L_mv ?_
      refine L_u (P_lt h) ?_
      intro v w h
      refine L_nil ?_
      refine E_n ?_
      refine C_cnd h (fun h => ?_) (fun h => ?_)
      · refine wp_seq ?_
        refine L_region ?_
        refine L_as ?_
        refine L_nil ?_
        refine E_n ?_
        refine C_ret ?_
        show bodyPost Try.prog Try.f48 (Rt Q) .ret _ _
        exact post_tmps (ts := [4]) (.inr rfl) rfl h
      · refine C_skip ?_
        refine E_n ?_
        refine wp_seq ?_
        refine wp_seq ?_
        refine L_region ?_
        refine L_mv ?_
        refine L_mv ?_
        refine L_u (P_gt h) ?_
        intro v w h
        refine L_nil ?_
        refine E_n ?_
        refine C_cnd h (fun h => ?_) (fun h => ?_)
        · refine wp_seq ?_
          refine L_region ?_
          refine L_as ?_
          refine L_nil ?_
          refine E_n ?_
          refine C_ret ?_
          show bodyPost Try.prog Try.f48 (Rt Q) .ret _ _
          exact post_tmps (ts := [4]) (.inr rfl) rfl h
        · refine C_skip ?_
          refine E_n ?_
          refine wp_seq ?_
          refine L_region ?_
          refine L_as ?_
          refine L_nil ?_
          refine E_n ?_
          refine C_ret ?_
          show bodyPost Try.prog Try.f48 (Rt Q) .ret _ _
          exact post_tmps (ts := [4]) (.inr rfl) rfl h
end Go.Proofs.Ytpjffilejnemmaa
