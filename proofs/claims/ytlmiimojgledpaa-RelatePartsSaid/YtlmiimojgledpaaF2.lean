/- Functions as predicate transformers, and that the machine does what they say, by program. -/
import Derived.Test.YtlmiimojgledpaaF1
set_option linter.unusedVariables false
set_option maxRecDepth 20000
set_option maxHeartbeats 4000000
namespace Go.Proofs.Ytlmiimojgledpaa
open Sh
attribute [local irreducible] wpL anyG act jn lo gdB amb kp smr nc fa ld ldn st stn ad su mu qu re lt le gt ge eqi nei bws shl shr cat eqs nes lts gts eqb neb nt pk cv al bx ex fld fldn lnl lns ia iaa ixs sls sll sla mif mnm mxm mm asrt sm smu cl cc cf ci cnd gd gdu
/- slices.swapRangeCmpFunc[factotum/api.Row] -/
def f63_b1 (self1 : Value → Value → Value → Value → Value → M) (t0_1 t1_1 t2_1 t3_1 t10 : Value) : M :=
  lt .i64 t10 t3_1 fun t13 =>
  cnd t13 (
    dr <|
    idv t0_1 fun t16 =>
    idv t1_1 fun t17 =>
    idv t10 fun t18 =>
    ad .i64 t17 t18 fun t19 =>
    idv t0_1 fun t20 =>
    idv t2_1 fun t21 =>
    idv t10 fun t22 =>
    ad .i64 t21 t22 fun t23 =>
    idv t0_1 fun t24 =>
    idv t2_1 fun t25 =>
    idv t10 fun t26 =>
    ad .i64 t25 t26 fun t27 =>
    ia 1 t24 t27 fun t28 =>
    ld t28 fun t29 =>
    idv t0_1 fun t30 =>
    idv t1_1 fun t31 =>
    idv t10 fun t32 =>
    ad .i64 t31 t32 fun t33 =>
    ia 1 t30 t33 fun t34 =>
    ld t34 fun t35 =>
    ia 1 t16 t19 fun t36 =>
    st t36 t29 <|
    ia 1 t20 t23 fun t37 =>
    st t37 t35 <|
    ad .i64 t10 (.int .i64 1) fun t15 =>
    self1 t0_1 t1_1 t2_1 t3_1 t15
    ) (
    rt (.tuple #[])
    )
def f63 (t0 t1 t2 t3 t4 : Value) : M :=
  lo (fun _ _ _ _ _ => bot) (f63_b1) (fun l => l t0 t1 t2 t3 (.int .i64 0))
theorem s63 (t0 t1 t2 t3 t4 : Value) (w : World) (Q : Value → World → Prop) (h : f63 t0 t1 t2 t3 t4 w Q) : Calls Try.prog 63 #[t0, t1, t2, t3, t4] w (Rt Q) := by
  refine calls_of (l := [t0, t1, t2, t3, t4]) Try.func63 rfl Try.ntmps63 (Nat.le_of_ble_eq_true rfl) ?_
  unfold f63 at h
  refine wp_seq ?_
  refine L_region ?_
  refine L_as ?_
  refine L_nil ?_
  refine E_n ?_
  refine C_blk ?_
  refine C_lo (fun (l : Value → Value → Value → Value → Value → M) (ρ : Nat → Value) => l (ρ 0) (ρ 1) (ρ 2) (ρ 3) (ρ 10)) h (fun ρ w h => h) (fun nx self1 L1 ρ w h => ?_)
  unfold f63_b1 at h
  refine wp_seq ?_
  refine wp_seq ?_
  refine L_region ?_
  refine L_mv ?_
  refine L_mv ?_
  refine L_u (P_lt h) ?_
  intro v w h
  refine L_nil ?_
  refine E_n ?_
  refine C_cnd h (fun h => ?_) (fun h => ?_)
  · refine C_skip ?_
    refine E_n ?_
    refine wp_seq ?_
    refine C_blk ?_
    refine D_region (by decide +kernel) 24 rfl ?_
    replace h := dr_e h
    refine G_p 0 rfl (by decide +kernel) (Y_mv h) ?_
    intro v h
    refine G_p 1 rfl (by decide +kernel) (Y_mv h) ?_
    intro v h
    refine G_p 2 rfl (by decide +kernel) (Y_mv h) ?_
    intro v h
    refine G_p 3 rfl (by decide +kernel) (Y_ad h) ?_
    intro v h
    refine G_p 4 rfl (by decide +kernel) (Y_mv h) ?_
    intro v h
    refine G_p 5 rfl (by decide +kernel) (Y_mv h) ?_
    intro v h
    refine G_p 6 rfl (by decide +kernel) (Y_mv h) ?_
    intro v h
    refine G_p 7 rfl (by decide +kernel) (Y_ad h) ?_
    intro v h
    refine G_p 8 rfl (by decide +kernel) (Y_mv h) ?_
    intro v h
    refine G_p 9 rfl (by decide +kernel) (Y_mv h) ?_
    intro v h
    refine G_p 10 rfl (by decide +kernel) (Y_mv h) ?_
    intro v h
    refine G_p 11 rfl (by decide +kernel) (Y_ad h) ?_
    intro v h
    refine G_p 12 rfl (by decide +kernel) (Y_ia se22 h) ?_
    intro v h
    refine G_r _ 13 rfl (by decide +kernel) (R_ld sc33 h) ?_
    intro v h
    refine G_p 14 rfl (by decide +kernel) (Y_mv h) ?_
    intro v h
    refine G_p 15 rfl (by decide +kernel) (Y_mv h) ?_
    intro v h
    refine G_p 16 rfl (by decide +kernel) (Y_mv h) ?_
    intro v h
    refine G_p 17 rfl (by decide +kernel) (Y_ad h) ?_
    intro v h
    refine G_p 18 rfl (by decide +kernel) (Y_ia se22 h) ?_
    intro v h
    refine G_r _ 19 rfl (by decide +kernel) (R_ld sc33 h) ?_
    intro v h
    refine G_p 20 rfl (by decide +kernel) (Y_ia se22 h) ?_
    intro v h
    refine G_e 21 rfl (by decide +kernel) (P_st on33 h ?_)
    intro w h
    refine ⟨keepF_dep [19] (by decide +kernel) rfl (keepF_dep [13] (by decide +kernel) rfl keepF_nil), ?_⟩
    refine G_p 22 rfl (by decide +kernel) (Y_ia se22 h) ?_
    intro v h
    refine G_e 23 rfl (by decide +kernel) (P_st on33 h ?_)
    intro w h
    refine ⟨keepF_dep [19] (by decide +kernel) rfl (keepF_dep [13] (by decide +kernel) rfl keepF_nil), ?_⟩
    refine G_done (by decide +kernel) ?_
    refine B_n ?_
    refine E_n ?_
    refine L_region ?_
    refine L_mv ?_
    refine L_u (P_ad h) ?_
    intro v w h
    refine L_as ?_
    refine L_nil ?_
    refine E_n ?_
    exact L1 _ _ h
  · refine C_exit ?_
    refine E_x ?_
    refine E_x ?_
    refine B_x ?_
    show bodyPost Try.prog Try.f63 (Rt Q) .normal _ _
    exact post_tmps (ts := []) (.inl rfl) rfl h

/- slices.rotateCmpFunc[factotum/api.Row] -/
def f61_b2 (j1 : Value → Value → Value → Value → M) (self2 : Value → Value → Value → Value → Value → M) (t0_1 t2_1 t4_1 t10 t11 : Value) : M :=
  nei .i64 t10 t11 fun t20 =>
  cnd t20 (
    gt .i64 t10 t11 fun t23 =>
    cnd t23 (
      su .i64 t2_1 t10 fun t27 =>
      cl (f63 t0_1 t27 t2_1 t11 t4_1) fun t31 =>
      su .i64 t10 t11 fun t34 =>
      self2 t0_1 t2_1 t4_1 t34 t11
      ) (
      su .i64 t2_1 t10 fun t38 =>
      ad .i64 t2_1 t11 fun t41 =>
      su .i64 t41 t10 fun t43 =>
      cl (f63 t0_1 t38 t43 t10 t4_1) fun t46 =>
      su .i64 t11 t10 fun t49 =>
      self2 t0_1 t2_1 t4_1 t10 t49
      )
    ) (
    j1 t0_1 t2_1 t4_1 t10
    )
def f61_j1 (t0_2 t2_2 t4_2 t10_1 : Value) : M :=
  su .i64 t2_2 t10_1 fun t53 =>
  cl (f63 t0_2 t53 t2_2 t10_1 t4_2) fun t57 =>
  rt (.tuple #[])
def f61 (t0 t1 t2 t3 t4 : Value) : M :=
  su .i64 t2 t1 fun t14 =>
  su .i64 t3 t2 fun t17 =>
  jn (fun (j1 : Value → Value → Value → Value → M) =>
    lo (fun _ _ _ _ _ => bot) (f61_b2 j1) (fun l => l t0 t2 t4 t14 t17)
    ) (f61_j1)
theorem s61 (t0 t1 t2 t3 t4 : Value) (w : World) (Q : Value → World → Prop) (h : f61 t0 t1 t2 t3 t4 w Q) : Calls Try.prog 61 #[t0, t1, t2, t3, t4] w (Rt Q) := by
  refine calls_of (l := [t0, t1, t2, t3, t4]) Try.func61 rfl Try.ntmps61 (Nat.le_of_ble_eq_true rfl) ?_
  unfold f61 at h
  refine wp_seq ?_
  refine L_region ?_
  refine L_mv ?_
  refine L_mv ?_
  refine L_u (P_su h) ?_
  intro v w h
  refine L_as ?_
  refine L_nil ?_
  refine E_n ?_
  refine wp_seq ?_
  refine L_region ?_
  refine L_mv ?_
  refine L_mv ?_
  refine L_u (P_su h) ?_
  intro v w h
  refine L_as ?_
  refine L_nil ?_
  refine E_n ?_
  refine wp_seq ?_
  refine C_join (fun (k : Value → Value → Value → Value → M) (ρ : Nat → Value) => k (ρ 0) (ρ 2) (ρ 4) (ρ 10)) h (fun j1 J1 h => ?_) (fun ρ w h => ?_)
  · refine C_blk ?_
    refine C_lo (fun (l : Value → Value → Value → Value → Value → M) (ρ : Nat → Value) => l (ρ 0) (ρ 2) (ρ 4) (ρ 10) (ρ 11)) h (fun ρ w h => h) (fun nx self2 L2 ρ w h => ?_)
    unfold f61_b2 at h
    refine wp_seq ?_
    refine wp_seq ?_
    refine L_region ?_
    refine L_mv ?_
    refine L_mv ?_
    refine L_u (P_nei h) ?_
    intro v w h
    refine L_nil ?_
    refine E_n ?_
    refine C_cnd h (fun h => ?_) (fun h => ?_)
    · refine C_skip ?_
      refine E_n ?_
      refine C_blk ?_
      refine wp_seq ?_
      refine L_region ?_
      refine L_mv ?_
      refine L_mv ?_
      refine L_u (P_gt h) ?_
      intro v w h
      refine L_nil ?_
      refine E_n ?_
      refine C_cnd h (fun h => ?_) (fun h => ?_)
      · refine wp_seq ?_
        refine L_region ?_
        refine L_mv ?_
        refine L_mv ?_
        refine L_mv ?_
        refine L_u (P_su h) ?_
        intro v w h
        refine L_mv ?_
        refine L_mv ?_
        refine L_mv ?_
        refine L_u (N_cl Try.func63 rfl nn63 (fun w Q h => s63 _ _ _ _ _ w Q h) h) ?_
        intro v w h
        refine L_nil ?_
        refine E_n ?_
        refine L_region ?_
        refine L_mv ?_
        refine L_mv ?_
        refine L_u (P_su h) ?_
        intro v w h
        refine L_as ?_
        refine L_nil ?_
        refine B_n ?_
        refine E_n ?_
        exact L2 _ _ h
      · refine wp_seq ?_
        refine L_region ?_
        refine L_mv ?_
        refine L_mv ?_
        refine L_mv ?_
        refine L_u (P_su h) ?_
        intro v w h
        refine L_mv ?_
        refine L_mv ?_
        refine L_u (P_ad h) ?_
        intro v w h
        refine L_mv ?_
        refine L_u (P_su h) ?_
        intro v w h
        refine L_mv ?_
        refine L_mv ?_
        refine L_u (N_cl Try.func63 rfl nn63 (fun w Q h => s63 _ _ _ _ _ w Q h) h) ?_
        intro v w h
        refine L_nil ?_
        refine E_n ?_
        refine L_region ?_
        refine L_mv ?_
        refine L_mv ?_
        refine L_u (P_su h) ?_
        intro v w h
        refine L_as ?_
        refine L_nil ?_
        refine B_n ?_
        refine E_n ?_
        exact L2 _ _ h
    · refine C_exit ?_
      refine E_x ?_
      refine E_x ?_
      refine B_x ?_
      exact J1 _ _ h
  · unfold f61_j1 at h
    refine E_n ?_
    refine L_region ?_
    refine L_mv ?_
    refine L_mv ?_
    refine L_mv ?_
    refine L_u (P_su h) ?_
    intro v w h
    refine L_mv ?_
    refine L_mv ?_
    refine L_mv ?_
    refine L_u (N_cl Try.func63 rfl nn63 (fun w Q h => s63 _ _ _ _ _ w Q h) h) ?_
    intro v w h
    refine L_nil ?_
    show bodyPost Try.prog Try.f61 (Rt Q) .normal _ _
    exact post_tmps (ts := []) (.inl rfl) rfl h

/- slices.symMergeCmpFunc[factotum/api.Row] -/
def f59_b2 (j1 : Value → Value → Value → M) (self2 : Value → Value → Value → Value → Value → M) (t0_1 t1_1 t4_1 t10 t11 : Value) : M :=
  lt .i64 t10 t11 fun t33 =>
  cnd t33 (
    ad .i64 t10 t11 fun t36 =>
    cv .u64 t36 fun t37 =>
    shr .u64 .u64 t37 (.int .u64 1) fun t38 =>
    cv .i64 t38 fun t39 =>
    dr <|
    idv t4_1 fun t40 =>
    idv t0_1 fun t41 =>
    idv t39 fun t42 =>
    ia 1 t41 t42 fun t43 =>
    ld t43 fun t44 =>
    idv t0_1 fun t45 =>
    idv t1_1 fun t46 =>
    ia 1 t45 t46 fun t47 =>
    ld t47 fun t48 =>
    cf Try.prog t40 #[t44, t48] fun t49 =>
    lt .i64 t49 (.int .i64 0) fun t50 =>
    cnd t50 (
      ad .i64 t39 (.int .i64 1) fun t52 =>
      self2 t0_1 t1_1 t4_1 t52 t11
      ) (
      self2 t0_1 t1_1 t4_1 t10 t39
      )
    ) (
    j1 t0_1 t1_1 t10
    )
def f59_b3 (self3 : Value → Value → Value → M) (t0_3 t10_2 t13 : Value) : M :=
  su .i64 t10_2 (.int .i64 1) fun t57 =>
  lt .i64 t13 t57 fun t58 =>
  cnd t58 (
    dr <|
    idv t0_3 fun t61 =>
    idv t13 fun t62 =>
    idv t0_3 fun t63 =>
    idv t13 fun t64 =>
    ad .i64 t64 (.int .i64 1) fun t65 =>
    idv t0_3 fun t66 =>
    idv t13 fun t67 =>
    ad .i64 t67 (.int .i64 1) fun t68 =>
    ia 1 t66 t68 fun t69 =>
    ld t69 fun t70 =>
    idv t0_3 fun t71 =>
    idv t13 fun t72 =>
    ia 1 t71 t72 fun t73 =>
    ld t73 fun t74 =>
    ia 1 t61 t62 fun t75 =>
    st t75 t70 <|
    ia 1 t63 t65 fun t76 =>
    st t76 t74 <|
    ad .i64 t13 (.int .i64 1) fun t60 =>
    self3 t0_3 t10_2 t60
    ) (
    rt (.tuple #[])
    )
def f59_j1 (t0_2 t1_2 t10_1 : Value) : M :=
  lo (fun _ _ _ => bot) (f59_b3) (fun l => l t0_2 t10_1 t1_2)
def f59_b5 (j4 : Value → Value → Value → M) (self5 : Value → Value → Value → Value → Value → M) (t0_4 t2_1 t4_2 t14 t15 : Value) : M :=
  lt .i64 t14 t15 fun t85 =>
  cnd t85 (
    ad .i64 t14 t15 fun t88 =>
    cv .u64 t88 fun t89 =>
    shr .u64 .u64 t89 (.int .u64 1) fun t90 =>
    cv .i64 t90 fun t91 =>
    dr <|
    idv t4_2 fun t92 =>
    idv t0_4 fun t93 =>
    idv t2_1 fun t94 =>
    ia 1 t93 t94 fun t95 =>
    ld t95 fun t96 =>
    idv t0_4 fun t97 =>
    idv t91 fun t98 =>
    ia 1 t97 t98 fun t99 =>
    ld t99 fun t100 =>
    cf Try.prog t92 #[t96, t100] fun t101 =>
    lt .i64 t101 (.int .i64 0) fun t102 =>
    nt t102 fun t103 =>
    cnd t103 (
      ad .i64 t91 (.int .i64 1) fun t105 =>
      self5 t0_4 t2_1 t4_2 t105 t15
      ) (
      self5 t0_4 t2_1 t4_2 t14 t91
      )
    ) (
    j4 t0_4 t2_1 t14
    )
def f59_b6 (self6 : Value → Value → Value → M) (t0_6 t14_2 t17 : Value) : M :=
  gt .i64 t17 t14_2 fun t110 =>
  cnd t110 (
    dr <|
    idv t0_6 fun t113 =>
    idv t17 fun t114 =>
    idv t0_6 fun t115 =>
    idv t17 fun t116 =>
    su .i64 t116 (.int .i64 1) fun t117 =>
    idv t0_6 fun t118 =>
    idv t17 fun t119 =>
    su .i64 t119 (.int .i64 1) fun t120 =>
    ia 1 t118 t120 fun t121 =>
    ld t121 fun t122 =>
    idv t0_6 fun t123 =>
    idv t17 fun t124 =>
    ia 1 t123 t124 fun t125 =>
    ld t125 fun t126 =>
    ia 1 t113 t114 fun t127 =>
    st t127 t122 <|
    ia 1 t115 t117 fun t128 =>
    st t128 t126 <|
    su .i64 t17 (.int .i64 1) fun t112 =>
    self6 t0_6 t14_2 t112
    ) (
    rt (.tuple #[])
    )
def f59_j4 (t0_5 t2_2 t14_1 : Value) : M :=
  lo (fun _ _ _ => bot) (f59_b6) (fun l => l t0_5 t14_1 t2_2)
def f59_b9 (j8 : Value → Value → Value → Value → Value → Value → Value → Value → M) (self9 : Value → Value → Value → Value → Value → Value → Value → Value → Value → Value → M) (t0_8 t1_4 t2_4 t3_2 t4_4 t18_1 t19_1 t20_1 t21_1 t22 : Value) : M :=
  lt .i64 t20_1 t21_1 fun t151 =>
  cnd t151 (
    ad .i64 t20_1 t21_1 fun t154 =>
    cv .u64 t154 fun t155 =>
    shr .u64 .u64 t155 (.int .u64 1) fun t156 =>
    cv .i64 t156 fun t157 =>
    dr <|
    idv t4_4 fun t158 =>
    idv t0_8 fun t159 =>
    idv t22 fun t160 =>
    idv t157 fun t161 =>
    su .i64 t160 t161 fun t162 =>
    ia 1 t159 t162 fun t163 =>
    ld t163 fun t164 =>
    idv t0_8 fun t165 =>
    idv t157 fun t166 =>
    ia 1 t165 t166 fun t167 =>
    ld t167 fun t168 =>
    cf Try.prog t158 #[t164, t168] fun t169 =>
    lt .i64 t169 (.int .i64 0) fun t170 =>
    nt t170 fun t171 =>
    cnd t171 (
      ad .i64 t157 (.int .i64 1) fun t173 =>
      self9 t0_8 t1_4 t2_4 t3_2 t4_4 t18_1 t19_1 t173 t21_1 t22
      ) (
      self9 t0_8 t1_4 t2_4 t3_2 t4_4 t18_1 t19_1 t20_1 t157 t22
      )
    ) (
    j8 t0_8 t1_4 t2_4 t3_2 t4_4 t18_1 t19_1 t20_1
    )
def f59_j11 (t0_11 t3_5 t4_7 t18_4 t24_1 : Value) : M :=
  lt .i64 t18_4 t24_1 fun t208 =>
  gd t208 true (idv t24_1) fun t210 =>
  gd t208 true (idv t3_5) fun t211 =>
  gd t208 true (lt .i64 t210 t211) fun t212 =>
  pk t208 t212 (.bool false) fun t213 =>
  cnd t213 (
    cc Try.prog 59 #[t0_11, t18_4, t24_1, t3_5, t4_7] fun t219 =>
    rt (.tuple #[])
    ) (
    rt (.tuple #[])
    )
def f59_j10 (t0_10 t1_6 t3_4 t4_6 t18_3 t20_3 t24 : Value) : M :=
  lt .i64 t1_6 t20_3 fun t194 =>
  gd t194 true (idv t20_3) fun t196 =>
  gd t194 true (idv t18_3) fun t197 =>
  gd t194 true (lt .i64 t196 t197) fun t198 =>
  pk t194 t198 (.bool false) fun t199 =>
  jn (fun (j11 : Value → Value → Value → Value → Value → M) =>
    cnd t199 (
      cc Try.prog 59 #[t0_10, t1_6, t20_3, t18_3, t4_6] fun t205 =>
      j11 t0_10 t3_4 t4_6 t18_3 t24
      ) (
      j11 t0_10 t3_4 t4_6 t18_3 t24
      )
    ) (f59_j11)
def f59_j8 (t0_9 t1_5 t2_5 t3_3 t4_5 t18_2 t19_2 t20_2 : Value) : M :=
  su .i64 t19_2 t20_2 fun t177 =>
  lt .i64 t20_2 t2_5 fun t180 =>
  gd t180 true (idv t2_5) fun t182 =>
  gd t180 true (idv t177) fun t183 =>
  gd t180 true (lt .i64 t182 t183) fun t184 =>
  pk t180 t184 (.bool false) fun t185 =>
  jn (fun (j10 : Value → Value → Value → Value → Value → Value → Value → M) =>
    cnd t185 (
      cl (f61 t0_9 t20_2 t2_5 t177 t4_5) fun t191 =>
      j10 t0_9 t1_5 t3_3 t4_5 t18_2 t20_2 t177
      ) (
      j10 t0_9 t1_5 t3_3 t4_5 t18_2 t20_2 t177
      )
    ) (f59_j10)
def f59_j7 (t0_7 t1_3 t2_3 t3_1 t4_3 t18 t19 t20 t21 : Value) : M :=
  su .i64 t19 (.int .i64 1) fun t148 =>
  jn (fun (j8 : Value → Value → Value → Value → Value → Value → Value → Value → M) =>
    lo (fun _ _ _ _ _ _ _ _ _ _ => bot) (f59_b9 j8) (fun l => l t0_7 t1_3 t2_3 t3_1 t4_3 t18 t19 t20 t21 t148)
    ) (f59_j8)
def f59 (t0 t1 t2 t3 t4 : Value) : M :=
  su .i64 t2 t1 fun t27 =>
  eqi .i64 t27 (.int .i64 1) fun t28 =>
  cnd t28 (
    jn (fun (j1 : Value → Value → Value → M) =>
      lo (fun _ _ _ _ _ => bot) (f59_b2 j1) (fun l => l t0 t1 t4 t2 t3)
      ) (f59_j1)
    ) (
    su .i64 t3 t2 fun t79 =>
    eqi .i64 t79 (.int .i64 1) fun t80 =>
    cnd t80 (
      jn (fun (j4 : Value → Value → Value → M) =>
        lo (fun _ _ _ _ _ => bot) (f59_b5 j4) (fun l => l t0 t2 t4 t1 t2)
        ) (f59_j4)
      ) (
      ad .i64 t1 t3 fun t131 =>
      cv .u64 t131 fun t132 =>
      shr .u64 .u64 t132 (.int .u64 1) fun t133 =>
      cv .i64 t133 fun t134 =>
      ad .i64 t134 t2 fun t137 =>
      gt .i64 t2 t134 fun t140 =>
      jn (fun (j7 : Value → Value → Value → Value → Value → Value → Value → Value → Value → M) =>
        cnd t140 (
          su .i64 t137 t3 fun t143 =>
          j7 t0 t1 t2 t3 t4 t134 t137 t143 t134
          ) (
          j7 t0 t1 t2 t3 t4 t134 t137 t1 t2
          )
        ) (f59_j7)
      )
    )
theorem s59 (t0 t1 t2 t3 t4 : Value) (w : World) (Q : Value → World → Prop) (h : f59 t0 t1 t2 t3 t4 w Q) : Calls Try.prog 59 #[t0, t1, t2, t3, t4] w (Rt Q) := by
  refine calls_of (l := [t0, t1, t2, t3, t4]) Try.func59 rfl Try.ntmps59 (Nat.le_of_ble_eq_true rfl) ?_
  unfold f59 at h
  refine wp_seq ?_
  refine wp_seq ?_
  refine L_region ?_
  refine L_mv ?_
  refine L_mv ?_
  refine L_u (P_su h) ?_
  intro v w h
  refine L_u (P_eqi h) ?_
  intro v w h
  refine L_nil ?_
  refine E_n ?_
  refine C_cnd h (fun h => ?_) (fun h => ?_)
  · refine wp_seq ?_
    refine L_region ?_
    refine L_mv ?_
    refine L_as ?_
    refine L_nil ?_
    refine E_n ?_
    refine wp_seq ?_
    refine L_region ?_
    refine L_mv ?_
    refine L_as ?_
    refine L_nil ?_
    refine E_n ?_
    refine wp_seq ?_
    refine C_join (fun (k : Value → Value → Value → M) (ρ : Nat → Value) => k (ρ 0) (ρ 1) (ρ 10)) h (fun j1 J1 h => ?_) (fun ρ w h => ?_)
    · refine C_blk ?_
      refine C_lo (fun (l : Value → Value → Value → Value → Value → M) (ρ : Nat → Value) => l (ρ 0) (ρ 1) (ρ 4) (ρ 10) (ρ 11)) h (fun ρ w h => h) (fun nx self2 L2 ρ w h => ?_)
      unfold f59_b2 at h
      refine wp_seq ?_
      refine wp_seq ?_
      refine L_region ?_
      refine L_mv ?_
      refine L_mv ?_
      refine L_u (P_lt h) ?_
      intro v w h
      refine L_nil ?_
      refine E_n ?_
      refine C_cnd h (fun h => ?_) (fun h => ?_)
      · refine C_skip ?_
        refine E_n ?_
        refine C_blk ?_
        refine wp_seq ?_
        refine L_region ?_
        refine L_mv ?_
        refine L_mv ?_
        refine L_u (P_ad h) ?_
        intro v w h
        refine L_u (P_cv ai3 in74 h) ?_
        intro v w h
        refine L_u (P_shr h) ?_
        intro v w h
        refine L_u (P_cv ai74 in3 h) ?_
        intro v w h
        refine L_as ?_
        refine L_nil ?_
        refine E_n ?_
        refine wp_seq ?_
        refine D_region (by decide +kernel) 11 rfl ?_
        replace h := dr_e h
        refine G_p 0 rfl (by decide +kernel) (Y_mv h) ?_
        intro v h
        refine G_p 1 rfl (by decide +kernel) (Y_mv h) ?_
        intro v h
        refine G_p 2 rfl (by decide +kernel) (Y_mv h) ?_
        intro v h
        refine G_p 3 rfl (by decide +kernel) (Y_ia se22 h) ?_
        intro v h
        refine G_r _ 4 rfl (by decide +kernel) (R_ld sc33 h) ?_
        intro v h
        refine G_p 5 rfl (by decide +kernel) (Y_mv h) ?_
        intro v h
        refine G_p 6 rfl (by decide +kernel) (Y_mv h) ?_
        intro v h
        refine G_p 7 rfl (by decide +kernel) (Y_ia se22 h) ?_
        intro v h
        refine G_r _ 8 rfl (by decide +kernel) (R_ld sc33 h) ?_
        intro v h
        refine G_e 9 rfl (by decide +kernel) (N_cf h ?_)
        intro v w h
        refine ⟨keepF_dep [8] (by decide +kernel) rfl (keepF_dep [4] (by decide +kernel) rfl keepF_nil), ?_⟩
        refine G_p 10 rfl (by decide +kernel) (Y_lt h) ?_
        intro v h
        refine G_done (by decide +kernel) ?_
        refine E_n ?_
        refine C_cnd h (fun h => ?_) (fun h => ?_)
        · refine L_region ?_
          refine L_mv ?_
          refine L_u (P_ad h) ?_
          intro v w h
          refine L_as ?_
          refine L_nil ?_
          refine B_n ?_
          refine E_n ?_
          exact L2 _ _ h
        · refine L_region ?_
          refine L_mv ?_
          refine L_as ?_
          refine L_nil ?_
          refine B_n ?_
          refine E_n ?_
          exact L2 _ _ h
      · refine C_exit ?_
        refine E_x ?_
        refine E_x ?_
        refine B_x ?_
        exact J1 _ _ h
    · unfold f59_j1 at h
      refine E_n ?_
      refine wp_seq ?_
      refine wp_seq ?_
      refine L_region ?_
      refine L_mv ?_
      refine L_as ?_
      refine L_nil ?_
      refine E_n ?_
      refine C_blk ?_
      refine C_lo (fun (l : Value → Value → Value → M) (ρ : Nat → Value) => l (ρ 0) (ρ 10) (ρ 13)) h (fun ρ w h => h) (fun nx self3 L3 ρ w h => ?_)
      unfold f59_b3 at h
      refine wp_seq ?_
      refine wp_seq ?_
      refine L_region ?_
      refine L_mv ?_
      refine L_mv ?_
      refine L_u (P_su h) ?_
      intro v w h
      refine L_u (P_lt h) ?_
      intro v w h
      refine L_nil ?_
      refine E_n ?_
      refine C_cnd h (fun h => ?_) (fun h => ?_)
      · refine C_skip ?_
        refine E_n ?_
        refine wp_seq ?_
        refine C_blk ?_
        refine D_region (by decide +kernel) 18 rfl ?_
        replace h := dr_e h
        refine G_p 0 rfl (by decide +kernel) (Y_mv h) ?_
        intro v h
        refine G_p 1 rfl (by decide +kernel) (Y_mv h) ?_
        intro v h
        refine G_p 2 rfl (by decide +kernel) (Y_mv h) ?_
        intro v h
        refine G_p 3 rfl (by decide +kernel) (Y_mv h) ?_
        intro v h
        refine G_p 4 rfl (by decide +kernel) (Y_ad h) ?_
        intro v h
        refine G_p 5 rfl (by decide +kernel) (Y_mv h) ?_
        intro v h
        refine G_p 6 rfl (by decide +kernel) (Y_mv h) ?_
        intro v h
        refine G_p 7 rfl (by decide +kernel) (Y_ad h) ?_
        intro v h
        refine G_p 8 rfl (by decide +kernel) (Y_ia se22 h) ?_
        intro v h
        refine G_r _ 9 rfl (by decide +kernel) (R_ld sc33 h) ?_
        intro v h
        refine G_p 10 rfl (by decide +kernel) (Y_mv h) ?_
        intro v h
        refine G_p 11 rfl (by decide +kernel) (Y_mv h) ?_
        intro v h
        refine G_p 12 rfl (by decide +kernel) (Y_ia se22 h) ?_
        intro v h
        refine G_r _ 13 rfl (by decide +kernel) (R_ld sc33 h) ?_
        intro v h
        refine G_p 14 rfl (by decide +kernel) (Y_ia se22 h) ?_
        intro v h
        refine G_e 15 rfl (by decide +kernel) (P_st on33 h ?_)
        intro w h
        refine ⟨keepF_dep [13] (by decide +kernel) rfl (keepF_dep [9] (by decide +kernel) rfl keepF_nil), ?_⟩
        refine G_p 16 rfl (by decide +kernel) (Y_ia se22 h) ?_
        intro v h
        refine G_e 17 rfl (by decide +kernel) (P_st on33 h ?_)
        intro w h
        refine ⟨keepF_dep [13] (by decide +kernel) rfl (keepF_dep [9] (by decide +kernel) rfl keepF_nil), ?_⟩
        refine G_done (by decide +kernel) ?_
        refine B_n ?_
        refine E_n ?_
        refine L_region ?_
        refine L_mv ?_
        refine L_u (P_ad h) ?_
        intro v w h
        refine L_as ?_
        refine L_nil ?_
        refine E_n ?_
        exact L3 _ _ h
      · refine C_exit ?_
        refine E_x ?_
        refine E_x ?_
        refine B_x ?_
        refine E_n ?_
        refine C_ret ?_
        show bodyPost Try.prog Try.f59 (Rt Q) .ret _ _
        exact post_tmps (ts := []) (.inr rfl) rfl h
  · refine C_skip ?_
    refine E_n ?_
    refine wp_seq ?_
    refine wp_seq ?_
    refine L_region ?_
    refine L_mv ?_
    refine L_mv ?_
    refine L_u (P_su h) ?_
    intro v w h
    refine L_u (P_eqi h) ?_
    intro v w h
    refine L_nil ?_
    refine E_n ?_
    refine C_cnd h (fun h => ?_) (fun h => ?_)
    · refine wp_seq ?_
      refine L_region ?_
      refine L_mv ?_
      refine L_as ?_
      refine L_nil ?_
      refine E_n ?_
      refine wp_seq ?_
      refine L_region ?_
      refine L_mv ?_
      refine L_as ?_
      refine L_nil ?_
      refine E_n ?_
      refine wp_seq ?_
      refine C_join (fun (k : Value → Value → Value → M) (ρ : Nat → Value) => k (ρ 0) (ρ 2) (ρ 14)) h (fun j4 J4 h => ?_) (fun ρ w h => ?_)
      · refine C_blk ?_
        refine C_lo (fun (l : Value → Value → Value → Value → Value → M) (ρ : Nat → Value) => l (ρ 0) (ρ 2) (ρ 4) (ρ 14) (ρ 15)) h (fun ρ w h => h) (fun nx self5 L5 ρ w h => ?_)
        unfold f59_b5 at h
        refine wp_seq ?_
        refine wp_seq ?_
        refine L_region ?_
        refine L_mv ?_
        refine L_mv ?_
        refine L_u (P_lt h) ?_
        intro v w h
        refine L_nil ?_
        refine E_n ?_
        refine C_cnd h (fun h => ?_) (fun h => ?_)
        · refine C_skip ?_
          refine E_n ?_
          refine C_blk ?_
          refine wp_seq ?_
          refine L_region ?_
          refine L_mv ?_
          refine L_mv ?_
          refine L_u (P_ad h) ?_
          intro v w h
          refine L_u (P_cv ai3 in74 h) ?_
          intro v w h
          refine L_u (P_shr h) ?_
          intro v w h
          refine L_u (P_cv ai74 in3 h) ?_
          intro v w h
          refine L_as ?_
          refine L_nil ?_
          refine E_n ?_
          refine wp_seq ?_
          refine D_region (by decide +kernel) 12 rfl ?_
          replace h := dr_e h
          refine G_p 0 rfl (by decide +kernel) (Y_mv h) ?_
          intro v h
          refine G_p 1 rfl (by decide +kernel) (Y_mv h) ?_
          intro v h
          refine G_p 2 rfl (by decide +kernel) (Y_mv h) ?_
          intro v h
          refine G_p 3 rfl (by decide +kernel) (Y_ia se22 h) ?_
          intro v h
          refine G_r _ 4 rfl (by decide +kernel) (R_ld sc33 h) ?_
          intro v h
          refine G_p 5 rfl (by decide +kernel) (Y_mv h) ?_
          intro v h
          refine G_p 6 rfl (by decide +kernel) (Y_mv h) ?_
          intro v h
          refine G_p 7 rfl (by decide +kernel) (Y_ia se22 h) ?_
          intro v h
          refine G_r _ 8 rfl (by decide +kernel) (R_ld sc33 h) ?_
          intro v h
          refine G_e 9 rfl (by decide +kernel) (N_cf h ?_)
          intro v w h
          refine ⟨keepF_dep [8] (by decide +kernel) rfl (keepF_dep [4] (by decide +kernel) rfl keepF_nil), ?_⟩
          refine G_p 10 rfl (by decide +kernel) (Y_lt h) ?_
          intro v h
          refine G_p 11 rfl (by decide +kernel) (Y_nt h) ?_
          intro v h
          refine G_done (by decide +kernel) ?_
          refine E_n ?_
          refine C_cnd h (fun h => ?_) (fun h => ?_)
          · refine L_region ?_
            refine L_mv ?_
            refine L_u (P_ad h) ?_
            intro v w h
            refine L_as ?_
            refine L_nil ?_
            refine B_n ?_
            refine E_n ?_
            exact L5 _ _ h
          · refine L_region ?_
            refine L_mv ?_
            refine L_as ?_
            refine L_nil ?_
            refine B_n ?_
            refine E_n ?_
            exact L5 _ _ h
        · refine C_exit ?_
          refine E_x ?_
          refine E_x ?_
          refine B_x ?_
          exact J4 _ _ h
      · unfold f59_j4 at h
        refine E_n ?_
        refine wp_seq ?_
        refine wp_seq ?_
        refine L_region ?_
        refine L_mv ?_
        refine L_as ?_
        refine L_nil ?_
        refine E_n ?_
        refine C_blk ?_
        refine C_lo (fun (l : Value → Value → Value → M) (ρ : Nat → Value) => l (ρ 0) (ρ 14) (ρ 17)) h (fun ρ w h => h) (fun nx self6 L6 ρ w h => ?_)
        unfold f59_b6 at h
        refine wp_seq ?_
        refine wp_seq ?_
        refine L_region ?_
        refine L_mv ?_
        refine L_mv ?_
        refine L_u (P_gt h) ?_
        intro v w h
        refine L_nil ?_
        refine E_n ?_
        refine C_cnd h (fun h => ?_) (fun h => ?_)
        · refine C_skip ?_
          refine E_n ?_
          refine wp_seq ?_
          refine C_blk ?_
          refine D_region (by decide +kernel) 18 rfl ?_
          replace h := dr_e h
          refine G_p 0 rfl (by decide +kernel) (Y_mv h) ?_
          intro v h
          refine G_p 1 rfl (by decide +kernel) (Y_mv h) ?_
          intro v h
          refine G_p 2 rfl (by decide +kernel) (Y_mv h) ?_
          intro v h
          refine G_p 3 rfl (by decide +kernel) (Y_mv h) ?_
          intro v h
          refine G_p 4 rfl (by decide +kernel) (Y_su h) ?_
          intro v h
          refine G_p 5 rfl (by decide +kernel) (Y_mv h) ?_
          intro v h
          refine G_p 6 rfl (by decide +kernel) (Y_mv h) ?_
          intro v h
          refine G_p 7 rfl (by decide +kernel) (Y_su h) ?_
          intro v h
          refine G_p 8 rfl (by decide +kernel) (Y_ia se22 h) ?_
          intro v h
          refine G_r _ 9 rfl (by decide +kernel) (R_ld sc33 h) ?_
          intro v h
          refine G_p 10 rfl (by decide +kernel) (Y_mv h) ?_
          intro v h
          refine G_p 11 rfl (by decide +kernel) (Y_mv h) ?_
          intro v h
          refine G_p 12 rfl (by decide +kernel) (Y_ia se22 h) ?_
          intro v h
          refine G_r _ 13 rfl (by decide +kernel) (R_ld sc33 h) ?_
          intro v h
          refine G_p 14 rfl (by decide +kernel) (Y_ia se22 h) ?_
          intro v h
          refine G_e 15 rfl (by decide +kernel) (P_st on33 h ?_)
          intro w h
          refine ⟨keepF_dep [13] (by decide +kernel) rfl (keepF_dep [9] (by decide +kernel) rfl keepF_nil), ?_⟩
          refine G_p 16 rfl (by decide +kernel) (Y_ia se22 h) ?_
          intro v h
          refine G_e 17 rfl (by decide +kernel) (P_st on33 h ?_)
          intro w h
          refine ⟨keepF_dep [13] (by decide +kernel) rfl (keepF_dep [9] (by decide +kernel) rfl keepF_nil), ?_⟩
          refine G_done (by decide +kernel) ?_
          refine B_n ?_
          refine E_n ?_
          refine L_region ?_
          refine L_mv ?_
          refine L_u (P_su h) ?_
          intro v w h
          refine L_as ?_
          refine L_nil ?_
          refine E_n ?_
          exact L6 _ _ h
        · refine C_exit ?_
          refine E_x ?_
          refine E_x ?_
          refine B_x ?_
          refine E_n ?_
          refine C_ret ?_
          show bodyPost Try.prog Try.f59 (Rt Q) .ret _ _
          exact post_tmps (ts := []) (.inr rfl) rfl h
    · refine C_skip ?_
      refine E_n ?_
      refine wp_seq ?_
      refine L_region ?_
      refine L_mv ?_
      refine L_mv ?_
      refine L_u (P_ad h) ?_
      intro v w h
      refine L_u (P_cv ai3 in74 h) ?_
      intro v w h
      refine L_u (P_shr h) ?_
      intro v w h
      refine L_u (P_cv ai74 in3 h) ?_
      intro v w h
      refine L_as ?_
      refine L_nil ?_
      refine E_n ?_
      refine wp_seq ?_
      refine L_region ?_
      refine L_mv ?_
      refine L_mv ?_
      refine L_u (P_ad h) ?_
      intro v w h
      refine L_as ?_
      refine L_nil ?_
      refine E_n ?_
      refine wp_seq ?_
      refine L_region ?_
      refine L_as ?_
      refine L_as ?_
      refine L_nil ?_
      refine E_n ?_
      refine wp_seq ?_
      refine wp_seq ?_
      refine L_region ?_
      refine L_mv ?_
      refine L_mv ?_
      refine L_u (P_gt h) ?_
      intro v w h
      refine L_nil ?_
      refine E_n ?_
      refine C_join (fun (k : Value → Value → Value → Value → Value → Value → Value → Value → Value → M) (ρ : Nat → Value) => k (ρ 0) (ρ 1) (ρ 2) (ρ 3) (ρ 4) (ρ 18) (ρ 19) (ρ 20) (ρ 21)) h (fun j7 J7 h => ?_) (fun ρ w h => ?_)
      · refine C_cnd h (fun h => ?_) (fun h => ?_)
        · refine wp_seq ?_
          refine L_region ?_
          refine L_mv ?_
          refine L_mv ?_
          refine L_u (P_su h) ?_
          intro v w h
          refine L_as ?_
          refine L_nil ?_
          refine E_n ?_
          refine L_region ?_
          refine L_mv ?_
          refine L_as ?_
          refine L_nil ?_
          exact J7 _ _ h
        · refine wp_seq ?_
          refine L_region ?_
          refine L_mv ?_
          refine L_as ?_
          refine L_nil ?_
          refine E_n ?_
          refine L_region ?_
          refine L_mv ?_
          refine L_as ?_
          refine L_nil ?_
          exact J7 _ _ h
      · unfold f59_j7 at h
        refine E_n ?_
        refine wp_seq ?_
        refine L_region ?_
        refine L_mv ?_
        refine L_u (P_su h) ?_
        intro v w h
        refine L_as ?_
        refine L_nil ?_
        refine E_n ?_
        refine wp_seq ?_
        refine C_join (fun (k : Value → Value → Value → Value → Value → Value → Value → Value → M) (ρ : Nat → Value) => k (ρ 0) (ρ 1) (ρ 2) (ρ 3) (ρ 4) (ρ 18) (ρ 19) (ρ 20)) h (fun j8 J8 h => ?_) (fun ρ w h => ?_)
        · refine C_blk ?_
          refine C_lo (fun (l : Value → Value → Value → Value → Value → Value → Value → Value → Value → Value → M) (ρ : Nat → Value) => l (ρ 0) (ρ 1) (ρ 2) (ρ 3) (ρ 4) (ρ 18) (ρ 19) (ρ 20) (ρ 21) (ρ 22)) h (fun ρ w h => h) (fun nx self9 L9 ρ w h => ?_)
          unfold f59_b9 at h
          refine wp_seq ?_
          refine wp_seq ?_
          refine L_region ?_
          refine L_mv ?_
          refine L_mv ?_
          refine L_u (P_lt h) ?_
          intro v w h
          refine L_nil ?_
          refine E_n ?_
          refine C_cnd h (fun h => ?_) (fun h => ?_)
          · refine C_skip ?_
            refine E_n ?_
            refine C_blk ?_
            refine wp_seq ?_
            refine L_region ?_
            refine L_mv ?_
            refine L_mv ?_
            refine L_u (P_ad h) ?_
            intro v w h
            refine L_u (P_cv ai3 in74 h) ?_
            intro v w h
            refine L_u (P_shr h) ?_
            intro v w h
            refine L_u (P_cv ai74 in3 h) ?_
            intro v w h
            refine L_as ?_
            refine L_nil ?_
            refine E_n ?_
            refine wp_seq ?_
            refine D_region (by decide +kernel) 14 rfl ?_
            replace h := dr_e h
            refine G_p 0 rfl (by decide +kernel) (Y_mv h) ?_
            intro v h
            refine G_p 1 rfl (by decide +kernel) (Y_mv h) ?_
            intro v h
            refine G_p 2 rfl (by decide +kernel) (Y_mv h) ?_
            intro v h
            refine G_p 3 rfl (by decide +kernel) (Y_mv h) ?_
            intro v h
            refine G_p 4 rfl (by decide +kernel) (Y_su h) ?_
            intro v h
            refine G_p 5 rfl (by decide +kernel) (Y_ia se22 h) ?_
            intro v h
            refine G_r _ 6 rfl (by decide +kernel) (R_ld sc33 h) ?_
            intro v h
            refine G_p 7 rfl (by decide +kernel) (Y_mv h) ?_
            intro v h
            refine G_p 8 rfl (by decide +kernel) (Y_mv h) ?_
            intro v h
            refine G_p 9 rfl (by decide +kernel) (Y_ia se22 h) ?_
            intro v h
            refine G_r _ 10 rfl (by decide +kernel) (R_ld sc33 h) ?_
            intro v h
            refine G_e 11 rfl (by decide +kernel) (N_cf h ?_)
            intro v w h
            refine ⟨keepF_dep [10] (by decide +kernel) rfl (keepF_dep [6] (by decide +kernel) rfl keepF_nil), ?_⟩
            refine G_p 12 rfl (by decide +kernel) (Y_lt h) ?_
            intro v h
            refine G_p 13 rfl (by decide +kernel) (Y_nt h) ?_
            intro v h
            refine G_done (by decide +kernel) ?_
            refine E_n ?_
            refine C_cnd h (fun h => ?_) (fun h => ?_)
            · refine L_region ?_
              refine L_mv ?_
              refine L_u (P_ad h) ?_
              intro v w h
              refine L_as ?_
              refine L_nil ?_
              refine B_n ?_
              refine E_n ?_
              exact L9 _ _ h
            · refine L_region ?_
              refine L_mv ?_
              refine L_as ?_
              refine L_nil ?_
              refine B_n ?_
              refine E_n ?_
              exact L9 _ _ h
          · refine C_exit ?_
            refine E_x ?_
            refine E_x ?_
            refine B_x ?_
            exact J8 _ _ h
        · unfold f59_j8 at h
          refine E_n ?_
          refine wp_seq ?_
          refine L_region ?_
          refine L_mv ?_
          refine L_mv ?_
          refine L_u (P_su h) ?_
          intro v w h
          refine L_as ?_
          refine L_nil ?_
          refine E_n ?_
          refine wp_seq ?_
          refine wp_seq ?_
          refine L_region ?_
          refine L_mv ?_
          refine L_mv ?_
          refine L_u (P_lt h) ?_
          intro v w h
          refine L_mv ?_
          refine L_g (t := 181) h rfl rfl (fun c h => P_mv h c) ?_
          intro v w h
          refine L_g (t := 181) h rfl rfl (fun c h => P_mv h c) ?_
          intro v w h
          refine L_g (t := 181) h rfl rfl (fun c h => P_lt h c) ?_
          intro v w h
          refine L_u (P_pk h) ?_
          intro v w h
          refine L_nil ?_
          refine E_n ?_
          refine C_join (fun (k : Value → Value → Value → Value → Value → Value → Value → M) (ρ : Nat → Value) => k (ρ 0) (ρ 1) (ρ 3) (ρ 4) (ρ 18) (ρ 20) (ρ 24)) h (fun j10 J10 h => ?_) (fun ρ w h => ?_)
          · refine C_cnd h (fun h => ?_) (fun h => ?_)
            · refine L_region ?_
              refine L_mv ?_
              refine L_mv ?_
              refine L_mv ?_
              refine L_mv ?_
              refine L_mv ?_
              refine L_u (N_cl Try.func61 rfl nn61 (fun w Q h => s61 _ _ _ _ _ w Q h) h) ?_
              intro v w h
              refine L_nil ?_
              exact J10 _ _ h
            · refine C_skip ?_
              exact J10 _ _ h
          · unfold f59_j10 at h
            refine E_n ?_
            refine wp_seq ?_
            refine wp_seq ?_
            refine L_region ?_
            refine L_mv ?_
            refine L_mv ?_
            refine L_u (P_lt h) ?_
            intro v w h
            refine L_mv ?_
            refine L_g (t := 195) h rfl rfl (fun c h => P_mv h c) ?_
            intro v w h
            refine L_g (t := 195) h rfl rfl (fun c h => P_mv h c) ?_
            intro v w h
            refine L_g (t := 195) h rfl rfl (fun c h => P_lt h c) ?_
            intro v w h
            refine L_u (P_pk h) ?_
            intro v w h
            refine L_nil ?_
            refine E_n ?_
            refine C_join (fun (k : Value → Value → Value → Value → Value → M) (ρ : Nat → Value) => k (ρ 0) (ρ 3) (ρ 4) (ρ 18) (ρ 24)) h (fun j11 J11 h => ?_) (fun ρ w h => ?_)
            · refine C_cnd h (fun h => ?_) (fun h => ?_)
              · refine L_region ?_
                refine L_mv ?_
                refine L_mv ?_
                refine L_mv ?_
                refine L_mv ?_
                refine L_mv ?_
                refine L_u (N_cc Try.func59 rfl nn59 h) ?_
                intro v w h
                refine L_nil ?_
                exact J11 _ _ h
              · refine C_skip ?_
                exact J11 _ _ h
            · unfold f59_j11 at h
              refine E_n ?_
              refine wp_seq ?_
              refine L_region ?_
              refine L_mv ?_
              refine L_mv ?_
              refine L_u (P_lt h) ?_
              intro v w h
              refine L_mv ?_
              refine L_g (t := 209) h rfl rfl (fun c h => P_mv h c) ?_
              intro v w h
              refine L_g (t := 209) h rfl rfl (fun c h => P_mv h c) ?_
              intro v w h
              refine L_g (t := 209) h rfl rfl (fun c h => P_lt h c) ?_
              intro v w h
              refine L_u (P_pk h) ?_
              intro v w h
              refine L_nil ?_
              refine E_n ?_
              refine C_cnd h (fun h => ?_) (fun h => ?_)
              · refine L_region ?_
                refine L_mv ?_
                refine L_mv ?_
                refine L_mv ?_
                refine L_mv ?_
                refine L_mv ?_
                refine L_u (N_cc Try.func59 rfl nn59 h) ?_
                intro v w h
                refine L_nil ?_
                show bodyPost Try.prog Try.f59 (Rt Q) .normal _ _
                exact post_tmps (ts := []) (.inl rfl) rfl h
              · refine C_skip ?_
                show bodyPost Try.prog Try.f59 (Rt Q) .normal _ _
                exact post_tmps (ts := []) (.inl rfl) rfl h

/- slices.stableCmpFunc[factotum/api.Row] -/
def f52_b2 (j1 : Value → Value → Value → Value → Value → M) (self2 : Value → Value → Value → Value → Value → Value → M) (t0_1 t1_1 t2_1 t6 t7 t8 : Value) : M :=
  le .i64 t8 t1_1 fun t13 =>
  cnd t13 (
    cl (f58 t0_1 t7 t8 t2_1) fun t18 =>
    ad .i64 t8 t6 fun t22 =>
    self2 t0_1 t1_1 t2_1 t6 t8 t22
    ) (
    j1 t0_1 t1_1 t2_1 t6 t7
    )
def f52_b5 (j4 : Value → Value → Value → Value → Value → M) (self5 : Value → Value → Value → Value → Value → Value → M) (t0_4 t1_4 t2_4 t6_3 t7_2 t8_1 : Value) : M :=
  le .i64 t8_1 t1_4 fun t35 =>
  cnd t35 (
    ad .i64 t7_2 t6_3 fun t40 =>
    cl (f59 t0_4 t7_2 t40 t8_1 t2_4) fun t43 =>
    mu .i64 (.int .i64 2) t6_3 fun t47 =>
    ad .i64 t8_1 t47 fun t48 =>
    self5 t0_4 t1_4 t2_4 t6_3 t8_1 t48
    ) (
    j4 t0_4 t1_4 t2_4 t6_3 t7_2
    )
def f52_j6 (self3 : Value → Value → Value → Value → M) (t0_6 t1_6 t2_6 t6_5 : Value) : M :=
  mu .i64 t6_5 (.int .i64 2) fun t62 =>
  self3 t0_6 t1_6 t2_6 t62
def f52_j4 (self3 : Value → Value → Value → Value → M) (t0_5 t1_5 t2_5 t6_4 t7_3 : Value) : M :=
  ad .i64 t7_3 t6_4 fun t51 =>
  lt .i64 t51 t1_5 fun t54 =>
  jn (fun (j6 : Value → Value → Value → Value → M) =>
    cnd t54 (
      cl (f59 t0_5 t7_3 t51 t1_5 t2_5) fun t60 =>
      j6 t0_5 t1_5 t2_5 t6_4
      ) (
      j6 t0_5 t1_5 t2_5 t6_4
      )
    ) (f52_j6 self3)
def f52_b3 (self3 : Value → Value → Value → Value → M) (t0_3 t1_3 t2_3 t6_2 : Value) : M :=
  lt .i64 t6_2 t1_3 fun t30 =>
  cnd t30 (
    mu .i64 (.int .i64 2) t6_2 fun t32 =>
    jn (fun (j4 : Value → Value → Value → Value → Value → M) =>
      lo (fun _ _ _ _ _ _ => bot) (f52_b5 j4) (fun l => l t0_3 t1_3 t2_3 t6_2 (.int .i64 0) t32)
      ) (f52_j4 self3)
    ) (
    rt (.tuple #[])
    )
def f52_j1 (t0_2 t1_2 t2_2 t6_1 t7_1 : Value) : M :=
  cl (f58 t0_2 t7_1 t1_2 t2_2) fun t27 =>
  lo (fun _ _ _ _ => bot) (f52_b3) (fun l => l t0_2 t1_2 t2_2 t6_1)
def f52 (t0 t1 t2 : Value) : M :=
  jn (fun (j1 : Value → Value → Value → Value → Value → M) =>
    lo (fun _ _ _ _ _ _ => bot) (f52_b2 j1) (fun l => l t0 t1 t2 (.int .i64 20) (.int .i64 0) (.int .i64 20))
    ) (f52_j1)
theorem s52 (t0 t1 t2 : Value) (w : World) (Q : Value → World → Prop) (h : f52 t0 t1 t2 w Q) : Calls Try.prog 52 #[t0, t1, t2] w (Rt Q) := by
  refine calls_of (l := [t0, t1, t2]) Try.func52 rfl Try.ntmps52 (Nat.le_of_ble_eq_true rfl) ?_
  unfold f52 at h
  refine wp_seq ?_
  refine L_region ?_
  refine L_as ?_
  refine L_nil ?_
  refine E_n ?_
  refine wp_seq ?_
  refine L_region ?_
  refine L_mv ?_
  refine L_as ?_
  refine L_as ?_
  refine L_nil ?_
  refine E_n ?_
  refine wp_seq ?_
  refine C_join (fun (k : Value → Value → Value → Value → Value → M) (ρ : Nat → Value) => k (ρ 0) (ρ 1) (ρ 2) (ρ 6) (ρ 7)) h (fun j1 J1 h => ?_) (fun ρ w h => ?_)
  · refine C_blk ?_
    refine C_lo (fun (l : Value → Value → Value → Value → Value → Value → M) (ρ : Nat → Value) => l (ρ 0) (ρ 1) (ρ 2) (ρ 6) (ρ 7) (ρ 8)) h (fun ρ w h => h) (fun nx self2 L2 ρ w h => ?_)
    unfold f52_b2 at h
    refine wp_seq ?_
    refine wp_seq ?_
    refine L_region ?_
    refine L_mv ?_
    refine L_mv ?_
    refine L_u (P_le h) ?_
    intro v w h
    refine L_nil ?_
    refine E_n ?_
    refine C_cnd h (fun h => ?_) (fun h => ?_)
    · refine C_skip ?_
      refine E_n ?_
      refine C_blk ?_
      refine wp_seq ?_
      refine L_region ?_
      refine L_mv ?_
      refine L_mv ?_
      refine L_mv ?_
      refine L_mv ?_
      refine L_u (N_cl Try.func58 rfl nn58 (fun w Q h => s58 _ _ _ _ w Q h) h) ?_
      intro v w h
      refine L_nil ?_
      refine E_n ?_
      refine wp_seq ?_
      refine L_region ?_
      refine L_mv ?_
      refine L_as ?_
      refine L_nil ?_
      refine E_n ?_
      refine L_region ?_
      refine L_mv ?_
      refine L_mv ?_
      refine L_u (P_ad h) ?_
      intro v w h
      refine L_as ?_
      refine L_nil ?_
      refine B_n ?_
      refine E_n ?_
      exact L2 _ _ h
    · refine C_exit ?_
      refine E_x ?_
      refine E_x ?_
      refine B_x ?_
      exact J1 _ _ h
  · unfold f52_j1 at h
    refine E_n ?_
    refine wp_seq ?_
    refine L_region ?_
    refine L_mv ?_
    refine L_mv ?_
    refine L_mv ?_
    refine L_mv ?_
    refine L_u (N_cl Try.func58 rfl nn58 (fun w Q h => s58 _ _ _ _ w Q h) h) ?_
    intro v w h
    refine L_nil ?_
    refine E_n ?_
    refine C_blk ?_
    refine C_lo (fun (l : Value → Value → Value → Value → M) (ρ : Nat → Value) => l (ρ 0) (ρ 1) (ρ 2) (ρ 6)) h (fun ρ w h => h) (fun nx self3 L3 ρ w h => ?_)
    unfold f52_b3 at h
    refine wp_seq ?_
    refine wp_seq ?_
    refine L_region ?_
    refine L_mv ?_
    refine L_mv ?_
    refine L_u (P_lt h) ?_
    intro v w h
    refine L_nil ?_
    refine E_n ?_
    refine C_cnd h (fun h => ?_) (fun h => ?_)
    · refine C_skip ?_
      refine E_n ?_
      refine C_blk ?_
      refine wp_seq ?_
      refine L_region ?_
      refine L_mv ?_
      refine L_u (P_mu h) ?_
      intro v w h
      refine L_as ?_
      refine L_as ?_
      refine L_nil ?_
      refine E_n ?_
      refine wp_seq ?_
      refine C_join (fun (k : Value → Value → Value → Value → Value → M) (ρ : Nat → Value) => k (ρ 0) (ρ 1) (ρ 2) (ρ 6) (ρ 7)) h (fun j4 J4 h => ?_) (fun ρ w h => ?_)
      · refine C_blk ?_
        refine C_lo (fun (l : Value → Value → Value → Value → Value → Value → M) (ρ : Nat → Value) => l (ρ 0) (ρ 1) (ρ 2) (ρ 6) (ρ 7) (ρ 8)) h (fun ρ w h => h) (fun nx self5 L5 ρ w h => ?_)
        unfold f52_b5 at h
        refine wp_seq ?_
        refine wp_seq ?_
        refine L_region ?_
        refine L_mv ?_
        refine L_mv ?_
        refine L_u (P_le h) ?_
        intro v w h
        refine L_nil ?_
        refine E_n ?_
        refine C_cnd h (fun h => ?_) (fun h => ?_)
        · refine C_skip ?_
          refine E_n ?_
          refine C_blk ?_
          refine wp_seq ?_
          refine L_region ?_
          refine L_mv ?_
          refine L_mv ?_
          refine L_mv ?_
          refine L_mv ?_
          refine L_u (P_ad h) ?_
          intro v w h
          refine L_mv ?_
          refine L_mv ?_
          refine L_u (N_cl Try.func59 rfl nn59 (fun w Q h => s59 _ _ _ _ _ w Q h) h) ?_
          intro v w h
          refine L_nil ?_
          refine E_n ?_
          refine wp_seq ?_
          refine L_region ?_
          refine L_mv ?_
          refine L_as ?_
          refine L_nil ?_
          refine E_n ?_
          refine L_region ?_
          refine L_mv ?_
          refine L_mv ?_
          refine L_u (P_mu h) ?_
          intro v w h
          refine L_u (P_ad h) ?_
          intro v w h
          refine L_as ?_
          refine L_nil ?_
          refine B_n ?_
          refine E_n ?_
          exact L5 _ _ h
        · refine C_exit ?_
          refine E_x ?_
          refine E_x ?_
          refine B_x ?_
          exact J4 _ _ h
      · unfold f52_j4 at h
        refine E_n ?_
        refine wp_seq ?_
        refine wp_seq ?_
        refine L_region ?_
        refine L_mv ?_
        refine L_mv ?_
        refine L_u (P_ad h) ?_
        intro v w h
        refine L_as ?_
        refine L_nil ?_
        refine E_n ?_
        refine wp_seq ?_
        refine L_region ?_
        refine L_mv ?_
        refine L_mv ?_
        refine L_u (P_lt h) ?_
        intro v w h
        refine L_nil ?_
        refine E_n ?_
        refine C_join (fun (k : Value → Value → Value → Value → M) (ρ : Nat → Value) => k (ρ 0) (ρ 1) (ρ 2) (ρ 6)) h (fun j6 J6 h => ?_) (fun ρ w h => ?_)
        · refine C_cnd h (fun h => ?_) (fun h => ?_)
          · refine L_region ?_
            refine L_mv ?_
            refine L_mv ?_
            refine L_mv ?_
            refine L_mv ?_
            refine L_mv ?_
            refine L_u (N_cl Try.func59 rfl nn59 (fun w Q h => s59 _ _ _ _ _ w Q h) h) ?_
            intro v w h
            refine L_nil ?_
            exact J6 _ _ h
          · refine C_skip ?_
            exact J6 _ _ h
        · unfold f52_j6 at h
          refine E_n ?_
          refine L_region ?_
          refine L_mv ?_
          refine L_u (P_mu h) ?_
          intro v w h
          refine L_as ?_
          refine L_nil ?_
          refine B_n ?_
          refine E_n ?_
          exact L3 _ _ h
    · refine C_exit ?_
      refine E_x ?_
      refine E_x ?_
      refine B_x ?_
      show bodyPost Try.prog Try.f52 (Rt Q) .normal _ _
      exact post_tmps (ts := []) (.inl rfl) rfl h

/- slices.SortStableFunc[[]factotum/api.Row,factotum/api.Row] -/
def f39 (t0 t1 : Value) : M :=
  lnl t0 fun t6 =>
  cl (f52 t0 t6 t1) fun t8 =>
  rt (.tuple #[])
theorem s39 (t0 t1 : Value) (w : World) (Q : Value → World → Prop) (h : f39 t0 t1 w Q) : Calls Try.prog 39 #[t0, t1] w (Rt Q) := by
  refine calls_of (l := [t0, t1]) Try.func39 rfl Try.ntmps39 (Nat.le_of_ble_eq_true rfl) ?_
  unfold f39 at h
  refine L_region ?_
  refine L_mv ?_
  refine L_mv ?_
  refine L_u (P_lnl is22 h) ?_
  intro v w h
  refine L_mv ?_
  refine L_u (N_cl Try.func52 rfl nn52 (fun w Q h => s52 _ _ _ w Q h) h) ?_
  intro v w h
  refine L_nil ?_
  show bodyPost Try.prog Try.f39 (Rt Q) .normal _ _
  exact post_tmps (ts := []) (.inl rfl) rfl h

/- factotum/relate.Sort$2 -/
def f40 (t0 t1 t2 : Value) : M :=
  dr <|
  idv t0 fun t6 =>
  ld t2 fun t7 =>
  ia 3 t6 t7 fun t8 =>
  ldn 3 t8 fun t9 =>
  idv t1 fun t10 =>
  ld t2 fun t11 =>
  ia 3 t10 t11 fun t12 =>
  ldn 3 t12 fun t13 =>
  cl (f35 t9 t13) fun t14 =>
  idv t14 fun t5 =>
  rt t5
theorem s40 (t0 t1 t2 : Value) (w : World) (Q : Value → World → Prop) (h : f40 t0 t1 t2 w Q) : Calls Try.prog 40 #[t0, t1, t2] w (Rt Q) := by
  refine calls_of (l := [t0, t1, t2]) Try.func40 rfl Try.ntmps40 (Nat.le_of_ble_eq_true rfl) ?_
  unfold f40 at h
  refine wp_seq ?_
  refine L_region ?_
  refine L_as ?_
  refine L_nil ?_
  refine E_n ?_
  refine wp_seq ?_
  refine D_region (by decide +kernel) 10 rfl ?_
  replace h := dr_e h
  refine G_p 0 rfl (by decide +kernel) (Y_mv h) ?_
  intro v h
  refine G_r _ 1 rfl (by decide +kernel) (R_ld sc3 h) ?_
  intro v h
  refine G_p 2 rfl (by decide +kernel) (Y_ia se33 h) ?_
  intro v h
  refine G_r _ 3 rfl (by decide +kernel) (R_ldn ag31 h) ?_
  intro v h
  refine G_p 4 rfl (by decide +kernel) (Y_mv h) ?_
  intro v h
  refine G_r _ 5 rfl (by decide +kernel) (R_ld sc3 h) ?_
  intro v h
  refine G_p 6 rfl (by decide +kernel) (Y_ia se33 h) ?_
  intro v h
  refine G_r _ 7 rfl (by decide +kernel) (R_ldn ag31 h) ?_
  intro v h
  refine G_e 8 rfl (by decide +kernel) (N_cl Try.func35 rfl nn35 (fun w Q h => s35 _ _ w Q h) h ?_)
  intro v w h
  refine ⟨keepF_dep [7] (by decide +kernel) rfl (keepF_dep [7, 6, 5] (by decide +kernel) rfl (keepF_dep [3] (by decide +kernel) rfl (keepF_dep [3, 2, 1] (by decide +kernel) rfl keepF_nil))), ?_⟩
  refine G_p 9 rfl (by decide +kernel) (Y_as h) ?_
  intro v h
  refine G_done (by decide +kernel) ?_
  refine E_n ?_
  refine C_ret ?_
  show bodyPost Try.prog Try.f40 (Rt Q) .ret _ _
  exact post_tmps (ts := [5]) (.inr rfl) rfl h

/- factotum/relate.Sort -/
def f20 (t0 t1 : Value) : M :=
  bx 3 t1 fun t3 =>
  ld t3 fun t8 =>
  cl (f26 t0 t8) fun t9 =>
  cnd t9 (
    rt (.tuple #[(.slice none 0 0), (.int .i64 7)])
    ) (
    cl (f32 t0 (.func (.func 38) #[] #[])) fun t11 =>
    idv (.func (.func 40) #[] #[t3]) fun t13 =>
    cl (f39 t11 t13) fun t14 =>
    rt (.tuple #[t11, (.int .i64 0)])
    )
theorem s20 (t0 t1 : Value) (w : World) (Q : Value → World → Prop) (h : f20 t0 t1 w Q) : Calls Try.prog 20 #[t0, t1] w (Rt Q) := by
  refine calls_of (l := [t0, t1]) Try.func20 rfl Try.ntmps20 (Nat.le_of_ble_eq_true rfl) ?_
  unfold f20 at h
  refine wp_seq ?_
  refine L_region ?_
  refine L_u (P_bx h) ?_
  intro v w h
  refine L_as ?_
  refine L_as ?_
  refine L_nil ?_
  refine E_n ?_
  refine wp_seq ?_
  refine wp_seq ?_
  refine L_region ?_
  refine L_mv ?_
  refine L_u (P_ld sc3 h) ?_
  intro v w h
  refine L_u (N_cl Try.func26 rfl nn26 (fun w Q h => s26 _ _ w Q h) h) ?_
  intro v w h
  refine L_nil ?_
  refine E_n ?_
  refine C_cnd h (fun h => ?_) (fun h => ?_)
  · refine wp_seq ?_
    refine L_region ?_
    refine L_as ?_
    refine L_as ?_
    refine L_nil ?_
    refine E_n ?_
    refine C_ret ?_
    show bodyPost Try.prog Try.f20 (Rt Q) .ret _ _
    exact post_tmps (ts := [4, 5]) (.inr rfl) rfl h
  · refine C_skip ?_
    refine E_n ?_
    refine wp_seq ?_
    refine L_region ?_
    refine L_mv ?_
    refine L_u (N_cl Try.func32 rfl nn32 (fun w Q h => s32 _ _ w Q h) h) ?_
    intro v w h
    refine L_as ?_
    refine L_nil ?_
    refine E_n ?_
    refine wp_seq ?_
    refine L_region ?_
    refine L_mv ?_
    refine L_u (N_mf h) ?_
    intro v w h
    refine L_u (N_cl Try.func39 rfl nn39 (fun w Q h => s39 _ _ w Q h) h) ?_
    intro v w h
    refine L_nil ?_
    refine E_n ?_
    refine wp_seq ?_
    refine L_region ?_
    refine L_mv ?_
    refine L_as ?_
    refine L_as ?_
    refine L_nil ?_
    refine E_n ?_
    refine C_ret ?_
    show bodyPost Try.prog Try.f20 (Rt Q) .ret _ _
    exact post_tmps (ts := [4, 5]) (.inr rfl) rfl h

/- factotum/factotumlaw31.RelateSort -/
def f6_j7 (self5 : Value → Value → Value → Value → Value → Value → Value → Value → M) (t0_5 t1_5 t5_4 t7_4 t8_4 t9_4 t10_2 t11_2 : Value) : M :=
  ad .i64 t11_2 (.int .i64 1) fun t67 =>
  self5 t0_5 t1_5 t5_4 t7_4 t8_4 t9_4 t10_2 t67
def f6_j6 (self5 : Value → Value → Value → Value → Value → Value → Value → Value → M) (t0_4 t1_4 t5_3 t7_3 t8_3 t9_3 t10_1 t11_1 : Value) : M :=
  dr <|
  idv t11_1 fun t79 =>
  idv t5_3 fun t80 =>
  lnl t80 fun t81 =>
  lt .i64 t79 t81 fun t82 =>
  idv t82 fun t83 =>
  gd t83 true (idv t5_3) fun t84 =>
  gd t83 true (idv t11_1) fun t85 =>
  gd t83 true (ia 1 t84 t85) fun t86 =>
  gd t83 true (ld t86) fun t87 =>
  gd t83 true (idv t5_3) fun t88 =>
  gd t83 true (idv t9_3) fun t89 =>
  gd t83 true (ia 1 t88 t89) fun t90 =>
  gd t83 true (ld t90) fun t91 =>
  gd t83 true (cl (f11 t87 t91)) fun t92 =>
  pk t83 t92 (.bool false) fun t93 =>
  jn (fun (j7 : Value → Value → Value → Value → Value → Value → Value → Value → M) =>
    cnd t93 (
      su .i64 t10_1 (.int .i64 1) fun t95 =>
      j7 t0_4 t1_4 t5_3 t7_3 t8_3 t9_3 t95 t11_1
      ) (
      j7 t0_4 t1_4 t5_3 t7_3 t8_3 t9_3 t10_1 t11_1
      )
    ) (f6_j7 self5)
def f6_b5 (j4 : Value → Value → Value → Value → Value → Value → Value → M) (self5 : Value → Value → Value → Value → Value → Value → Value → Value → M) (t0_3 t1_3 t5_2 t7_2 t8_2 t9_2 t10 t11 : Value) : M :=
  lnl t0_3 fun t64 =>
  lt .i64 t11 t64 fun t65 =>
  cnd t65 (
    dr <|
    idv t0_3 fun t68 =>
    idv t11 fun t69 =>
    ia 1 t68 t69 fun t70 =>
    ld t70 fun t71 =>
    idv t5_2 fun t72 =>
    idv t9_2 fun t73 =>
    ia 1 t72 t73 fun t74 =>
    ld t74 fun t75 =>
    cl (f11 t71 t75) fun t76 =>
    jn (fun (j6 : Value → Value → Value → Value → Value → Value → Value → Value → M) =>
      cnd t76 (
        ad .i64 t10 (.int .i64 1) fun t78 =>
        j6 t0_3 t1_3 t5_2 t7_2 t8_2 t9_2 t78 t11
        ) (
        j6 t0_3 t1_3 t5_2 t7_2 t8_2 t9_2 t10 t11
        )
      ) (f6_j6 self5)
    ) (
    j4 t0_3 t1_3 t5_2 t7_2 t8_2 t9_2 t10
    )
def f6_j4 (self2 : Value → Value → Value → Value → Value → Value → M) (t0_6 t1_6 t5_5 t7_5 t8_5 t9_5 t10_3 : Value) : M :=
  nei .i64 t10_3 (.int .i64 0) fun t97 =>
  cnd t97 (
    rt (.bool false)
    ) (
    ad .i64 t9_5 (.int .i64 1) fun t38 =>
    self2 t0_6 t1_6 t5_5 t7_5 t8_5 t38
    )
def f6_j3 (self2 : Value → Value → Value → Value → Value → Value → M) (t0_2 t1_2 t5_1 t7_1 t8_1 t9_1 t61_2 : Value) : M :=
  cnd t61_2 (
    rt (.bool false)
    ) (
    jn (fun (j4 : Value → Value → Value → Value → Value → Value → Value → M) =>
      lo (fun _ _ _ _ _ _ _ _ => bot) (f6_b5 j4) (fun l => l t0_2 t1_2 t5_1 t7_1 t8_1 t9_1 (.int .i64 0) (.int .i64 0))
      ) (f6_j4 self2)
    )
def f6_b2 (j1 : Value → Value → Value → Value → M) (self2 : Value → Value → Value → Value → Value → Value → M) (t0_1 t1_1 t5 t7 t8 t9 : Value) : M :=
  lnl t5 fun t35 =>
  lt .i64 t9 t35 fun t36 =>
  cnd t36 (
    jn (fun (j3 : Value → Value → Value → Value → Value → Value → Value → M) =>
      dr <|
      idv t9 fun t39 =>
      gt .i64 t39 (.int .i64 0) fun t40 =>
      idv t40 fun t41 =>
      gd t41 true (idv t5) fun t42 =>
      gd t41 true (idv t9) fun t43 =>
      gd t41 true (su .i64 t43 (.int .i64 1)) fun t44 =>
      gd t41 true (ia 1 t42 t44) fun t45 =>
      gd t41 true (ld t45) fun t46 =>
      gd t41 true (idv t1_1) fun t47 =>
      gd t41 true (ia 3 t46 t47) fun t48 =>
      gd t41 true (ldn 3 t48) fun t49 =>
      gd t41 true (idv t5) fun t51 =>
      gd t41 true (idv t9) fun t52 =>
      gd t41 true (ia 1 t51 t52) fun t53 =>
      gd t41 true (ld t53) fun t54 =>
      gd t41 true (idv t1_1) fun t55 =>
      gd t41 true (ia 3 t54 t55) fun t56 =>
      gd t41 true (ldn 3 t56) fun t57 =>
      amb (
        gd t41 true (sm Try.prog (Instr.buildSlice 32 1 #[(0, t49)])) fun t50 =>
        kp (fun w => gdB t41 true = true → Kldn 3 t56 t57 w) <|
        kp (fun w => gdB t41 true = true → Kld t53 t54 w) <|
        gd t41 true (sm Try.prog (Instr.buildSlice 32 1 #[(0, t57)])) fun t58_1 =>
        kp (fun w => gdB t41 true = true → Kldn 3 t48 t49 w) <|
        kp (fun w => gdB t41 true = true → Kld t45 t46 w) <|
        gd t41 true (cl (f19 t50 t58_1)) fun t59 =>
        gd t41 true (gt .i64 t59 (.int .i64 0)) fun t60 =>
        pk t41 t60 (.bool false) fun t61 =>
        j3 t0_1 t1_1 t5 t7 t8 t9 t61
        ) (
        gd t41 true (sm Try.prog (Instr.buildSlice 32 1 #[(0, t57)])) fun t58 =>
        kp (fun w => gdB t41 true = true → Kldn 3 t48 t49 w) <|
        kp (fun w => gdB t41 true = true → Kld t45 t46 w) <|
        gd t41 true (sm Try.prog (Instr.buildSlice 32 1 #[(0, t49)])) fun t50_1 =>
        kp (fun w => gdB t41 true = true → Kldn 3 t56 t57 w) <|
        kp (fun w => gdB t41 true = true → Kld t53 t54 w) <|
        gd t41 true (cl (f19 t50_1 t58)) fun t59_1 =>
        gd t41 true (gt .i64 t59_1 (.int .i64 0)) fun t60_1 =>
        pk t41 t60_1 (.bool false) fun t61_1 =>
        j3 t0_1 t1_1 t5 t7 t8 t9 t61_1
        )
      ) (f6_j3 self2)
    ) (
    j1 t0_1 t5 t7 t8
    )
def f6_j1 (t0_7 t5_6 t7_6 t8_6 : Value) : M :=
  eqi .i64 t8_6 (.int .i64 0) fun t99 =>
  gd t99 true (idv t5_6) fun t101 =>
  gd t99 true (lnl t101) fun t102 =>
  gd t99 true (idv t0_7) fun t103 =>
  gd t99 true (lnl t103) fun t104 =>
  gd t99 true (eqi .i64 t102 t104) fun t105 =>
  pk t99 t105 (.bool false) fun t106 =>
  gd t106 true (idv t5_6) fun t108 =>
  gd t106 true (idv t7_6) fun t109 =>
  gd t106 true (cl (f13 t108 t109)) fun t110 =>
  pk t106 t110 (.bool false) fun t111 =>
  rt t111
def f6 (t0 t1 : Value) : M :=
  cl (f8) fun t12 =>
  nt t12 fun t13 =>
  cnd t13 (
    rt (.bool false)
    ) (
    cl (f9 t0) fun t15 =>
    cl (f20 t15 t1) fun t19 =>
    ex 0 t19 fun t20 =>
    ex 1 t19 fun t21 =>
    nei .i64 t21 (.int .i64 0) fun t23 =>
    cnd t23 (
      lnl t20 fun t25 =>
      eqi .i64 t25 (.int .i64 0) fun t26 =>
      rt t26
      ) (
      cl (f20 t20 t1) fun t30 =>
      ex 0 t30 fun t31 =>
      ex 1 t30 fun t32 =>
      jn (fun (j1 : Value → Value → Value → Value → M) =>
        lo (fun _ _ _ _ _ _ => bot) (f6_b2 j1) (fun l => l t15 t1 t20 t31 t32 (.int .i64 0))
        ) (f6_j1)
      )
    )
theorem s6 (t0 t1 : Value) (w : World) (Q : Value → World → Prop) (h : f6 t0 t1 w Q) : Calls Try.prog 6 #[t0, t1] w (Rt Q) := by
  refine calls_of (l := [t0, t1]) Try.func6 rfl Try.ntmps6 (Nat.le_of_ble_eq_true rfl) ?_
  unfold f6 at h
  refine wp_seq ?_
  refine L_region ?_
  refine L_as ?_
  refine L_nil ?_
  refine E_n ?_
  refine wp_seq ?_
  refine wp_seq ?_
  refine L_region ?_
  refine L_u (N_cl Try.func8 rfl nn8 (fun w Q h => s8 w Q h) h) ?_
  intro v w h
  refine L_u (P_nt h) ?_
  intro v w h
  refine L_nil ?_
  refine E_n ?_
  refine C_cnd h (fun h => ?_) (fun h => ?_)
  · refine wp_seq ?_
    refine L_region ?_
    refine L_as ?_
    refine L_nil ?_
    refine E_n ?_
    refine C_ret ?_
    show bodyPost Try.prog Try.f6 (Rt Q) .ret _ _
    exact post_tmps (ts := [4]) (.inr rfl) rfl h
  · refine C_skip ?_
    refine E_n ?_
    refine wp_seq ?_
    refine L_region ?_
    refine L_mv ?_
    refine L_u (N_cl Try.func9 rfl nn9 (fun w Q h => s9 _ w Q h) h) ?_
    intro v w h
    refine L_as ?_
    refine L_nil ?_
    refine E_n ?_
    refine wp_seq ?_
    refine L_region ?_
    refine L_mv ?_
    refine L_mv ?_
    refine L_u (N_cl Try.func20 rfl nn20 (fun w Q h => s20 _ _ w Q h) h) ?_
    intro v w h
    refine L_mv ?_
    refine L_u (P_ex h) ?_
    intro v w h
    refine L_u (P_ex h) ?_
    intro v w h
    refine L_as ?_
    refine L_as ?_
    refine L_nil ?_
    refine E_n ?_
    refine wp_seq ?_
    refine wp_seq ?_
    refine L_region ?_
    refine L_mv ?_
    refine L_u (P_nei h) ?_
    intro v w h
    refine L_nil ?_
    refine E_n ?_
    refine C_cnd h (fun h => ?_) (fun h => ?_)
    · refine wp_seq ?_
      refine L_region ?_
      refine L_mv ?_
      refine L_u (P_lnl is22 h) ?_
      intro v w h
      refine L_u (P_eqi h) ?_
      intro v w h
      refine L_as ?_
      refine L_nil ?_
      refine E_n ?_
      refine C_ret ?_
      show bodyPost Try.prog Try.f6 (Rt Q) .ret _ _
      exact post_tmps (ts := [4]) (.inr rfl) rfl h
    · refine C_skip ?_
      refine E_n ?_
      refine wp_seq ?_
      refine L_region ?_
      refine L_mv ?_
      refine L_mv ?_
      refine L_u (N_cl Try.func20 rfl nn20 (fun w Q h => s20 _ _ w Q h) h) ?_
      intro v w h
      refine L_mv ?_
      refine L_u (P_ex h) ?_
      intro v w h
      refine L_u (P_ex h) ?_
      intro v w h
      refine L_as ?_
      refine L_as ?_
      refine L_nil ?_
      refine E_n ?_
      refine wp_seq ?_
      refine wp_seq ?_
      refine L_region ?_
      refine L_as ?_
      refine L_nil ?_
      refine E_n ?_
      refine C_join (fun (k : Value → Value → Value → Value → M) (ρ : Nat → Value) => k (ρ 0) (ρ 5) (ρ 7) (ρ 8)) h (fun j1 J1 h => ?_) (fun ρ w h => ?_)
      · refine C_blk ?_
        refine C_lo (fun (l : Value → Value → Value → Value → Value → Value → M) (ρ : Nat → Value) => l (ρ 0) (ρ 1) (ρ 5) (ρ 7) (ρ 8) (ρ 9)) h (fun ρ w h => h) (fun nx self2 L2 ρ w h => ?_)
        unfold f6_b2 at h
        refine wp_seq ?_
        refine wp_seq ?_
        refine L_region ?_
        refine L_mv ?_
        refine L_mv ?_
        refine L_u (P_lnl is22 h) ?_
        intro v w h
        refine L_u (P_lt h) ?_
        intro v w h
        refine L_nil ?_
        refine E_n ?_
        refine C_cnd h (fun h => ?_) (fun h => ?_)
        · refine C_skip ?_
          refine E_n ?_
          refine wp_seq ?_
          refine C_blk ?_
          refine wp_seq ?_
          refine wp_seq ?_
          refine C_join (fun (k : Value → Value → Value → Value → Value → Value → Value → M) (ρ : Nat → Value) => k (ρ 0) (ρ 1) (ρ 5) (ρ 7) (ρ 8) (ρ 9) (ρ 61)) h (fun j3 J3 h => ?_) (fun ρ w h => ?_)
          · refine D_region (by decide +kernel) 23 rfl ?_
            replace h := dr_e h
            refine G_p 0 rfl (by decide +kernel) (Y_mv h) ?_
            intro v h
            refine G_p 1 rfl (by decide +kernel) (Y_gt h) ?_
            intro v h
            refine G_p 2 rfl (by decide +kernel) (Y_mv h) ?_
            intro v h
            refine G_pg (t := 41) 3 rfl (by decide +kernel) h rfl rfl (fun h => Y_mv h) ?_
            intro v h
            refine G_pg (t := 41) 4 rfl (by decide +kernel) h rfl rfl (fun h => Y_mv h) ?_
            intro v h
            refine G_pg (t := 41) 5 rfl (by decide +kernel) h rfl rfl (fun h => Y_su h) ?_
            intro v h
            refine G_pg (t := 41) 6 rfl (by decide +kernel) h rfl rfl (fun h => Y_ia se22 h) ?_
            intro v h
            refine G_rg (t := 41) _ 7 rfl (by decide +kernel) h rfl rfl (fun h => R_ld sc33 h) ?_
            intro v h
            refine G_pg (t := 41) 8 rfl (by decide +kernel) h rfl rfl (fun h => Y_mv h) ?_
            intro v h
            refine G_pg (t := 41) 9 rfl (by decide +kernel) h rfl rfl (fun h => Y_ia se33 h) ?_
            intro v h
            refine G_rg (t := 41) _ 10 rfl (by decide +kernel) h rfl rfl (fun h => R_ldn ag31 h) ?_
            intro v h
            refine G_pg (t := 41) 12 rfl (by decide +kernel) h rfl rfl (fun h => Y_mv h) ?_
            intro v h
            refine G_pg (t := 41) 13 rfl (by decide +kernel) h rfl rfl (fun h => Y_mv h) ?_
            intro v h
            refine G_pg (t := 41) 14 rfl (by decide +kernel) h rfl rfl (fun h => Y_ia se22 h) ?_
            intro v h
            refine G_rg (t := 41) _ 15 rfl (by decide +kernel) h rfl rfl (fun h => R_ld sc33 h) ?_
            intro v h
            refine G_pg (t := 41) 16 rfl (by decide +kernel) h rfl rfl (fun h => Y_mv h) ?_
            intro v h
            refine G_pg (t := 41) 17 rfl (by decide +kernel) h rfl rfl (fun h => Y_ia se33 h) ?_
            intro v h
            refine G_rg (t := 41) _ 18 rfl (by decide +kernel) h rfl rfl (fun h => R_ldn ag31 h) ?_
            intro v h
            refine G_two (i := 11) (j := 19) (by decide +kernel) (G_opg (t := 41) rfl (amb_1 h) rfl rfl (fun c h => N_bsl h c) ?_) (G_opg (t := 41) rfl (amb_2 h) rfl rfl (fun c h => N_bsl h c) ?_)
            · intro v w h
              refine ⟨keepF_cons (kp_1 h) (keepF_cons (kp_1 (kp_2 h)) (keepF_dep [10] (by decide +kernel) rfl (keepF_dep [10, 9, 7] (by decide +kernel) rfl keepF_nil))), ?_⟩
              replace h := (kp_2 (kp_2 h))
              refine G_eg (t := 41) 19 rfl (by decide +kernel) h rfl rfl (fun c h => N_bsl h c) ?_
              intro v w h
              refine ⟨keepF_dep [18] (by decide +kernel) rfl (keepF_dep [18, 17, 15] (by decide +kernel) rfl (keepF_cons (kp_1 h) (keepF_cons (kp_1 (kp_2 h)) keepF_nil))), ?_⟩
              replace h := (kp_2 (kp_2 h))
              refine G_eg (t := 41) 20 rfl (by decide +kernel) h rfl rfl (fun c h => N_cl Try.func19 rfl nn19 (fun w Q h => s19 _ _ w Q h) h c) ?_
              intro v w h
              refine ⟨keepF_dep [19, 18] (by decide +kernel) rfl (keepF_dep [19, 18, 17, 15] (by decide +kernel) rfl (keepF_dep [11, 10] (by decide +kernel) rfl (keepF_dep [11, 10, 9, 7] (by decide +kernel) rfl keepF_nil))), ?_⟩
              refine G_pg (t := 41) 21 rfl (by decide +kernel) h rfl rfl (fun h => Y_gt h) ?_
              intro v h
              refine G_p 22 rfl (by decide +kernel) (Y_pk h) ?_
              intro v h
              refine G_done (by decide +kernel) ?_
              exact J3 _ _ h
            · intro v w h
              refine ⟨keepF_dep [18] (by decide +kernel) rfl (keepF_dep [18, 17, 15] (by decide +kernel) rfl (keepF_cons (kp_1 h) (keepF_cons (kp_1 (kp_2 h)) keepF_nil))), ?_⟩
              replace h := (kp_2 (kp_2 h))
              refine G_eg (t := 41) 11 rfl (by decide +kernel) h rfl rfl (fun c h => N_bsl h c) ?_
              intro v w h
              refine ⟨keepF_cons (kp_1 h) (keepF_cons (kp_1 (kp_2 h)) (keepF_dep [10] (by decide +kernel) rfl (keepF_dep [10, 9, 7] (by decide +kernel) rfl keepF_nil))), ?_⟩
              replace h := (kp_2 (kp_2 h))
              refine G_eg (t := 41) 20 rfl (by decide +kernel) h rfl rfl (fun c h => N_cl Try.func19 rfl nn19 (fun w Q h => s19 _ _ w Q h) h c) ?_
              intro v w h
              refine ⟨keepF_dep [19, 18] (by decide +kernel) rfl (keepF_dep [19, 18, 17, 15] (by decide +kernel) rfl (keepF_dep [11, 10] (by decide +kernel) rfl (keepF_dep [11, 10, 9, 7] (by decide +kernel) rfl keepF_nil))), ?_⟩
              refine G_pg (t := 41) 21 rfl (by decide +kernel) h rfl rfl (fun h => Y_gt h) ?_
              intro v h
              refine G_p 22 rfl (by decide +kernel) (Y_pk h) ?_
              intro v h
              refine G_done (by decide +kernel) ?_
              exact J3 _ _ h
          · unfold f6_j3 at h
            refine E_n ?_
            refine C_cnd h (fun h => ?_) (fun h => ?_)
            · refine wp_seq ?_
              refine L_region ?_
              refine L_as ?_
              refine L_nil ?_
              refine E_n ?_
              refine C_ret ?_
              show bodyPost Try.prog Try.f6 (Rt Q) .ret _ _
              exact post_tmps (ts := [4]) (.inr rfl) rfl h
            · refine C_skip ?_
              refine E_n ?_
              refine wp_seq ?_
              refine L_region ?_
              refine L_as ?_
              refine L_nil ?_
              refine E_n ?_
              refine wp_seq ?_
              refine wp_seq ?_
              refine L_region ?_
              refine L_as ?_
              refine L_nil ?_
              refine E_n ?_
              refine C_join (fun (k : Value → Value → Value → Value → Value → Value → Value → M) (ρ : Nat → Value) => k (ρ 0) (ρ 1) (ρ 5) (ρ 7) (ρ 8) (ρ 9) (ρ 10)) h (fun j4 J4 h => ?_) (fun ρ w h => ?_)
              · refine C_blk ?_
                refine C_lo (fun (l : Value → Value → Value → Value → Value → Value → Value → Value → M) (ρ : Nat → Value) => l (ρ 0) (ρ 1) (ρ 5) (ρ 7) (ρ 8) (ρ 9) (ρ 10) (ρ 11)) h (fun ρ w h => h) (fun nx self5 L5 ρ w h => ?_)
                unfold f6_b5 at h
                refine wp_seq ?_
                refine wp_seq ?_
                refine L_region ?_
                refine L_mv ?_
                refine L_mv ?_
                refine L_u (P_lnl is22 h) ?_
                intro v w h
                refine L_u (P_lt h) ?_
                intro v w h
                refine L_nil ?_
                refine E_n ?_
                refine C_cnd h (fun h => ?_) (fun h => ?_)
                · refine C_skip ?_
                  refine E_n ?_
                  refine wp_seq ?_
                  refine C_blk ?_
                  refine wp_seq ?_
                  refine wp_seq ?_
                  refine D_region (by decide +kernel) 9 rfl ?_
                  replace h := dr_e h
                  refine G_p 0 rfl (by decide +kernel) (Y_mv h) ?_
                  intro v h
                  refine G_p 1 rfl (by decide +kernel) (Y_mv h) ?_
                  intro v h
                  refine G_p 2 rfl (by decide +kernel) (Y_ia se22 h) ?_
                  intro v h
                  refine G_r _ 3 rfl (by decide +kernel) (R_ld sc33 h) ?_
                  intro v h
                  refine G_p 4 rfl (by decide +kernel) (Y_mv h) ?_
                  intro v h
                  refine G_p 5 rfl (by decide +kernel) (Y_mv h) ?_
                  intro v h
                  refine G_p 6 rfl (by decide +kernel) (Y_ia se22 h) ?_
                  intro v h
                  refine G_r _ 7 rfl (by decide +kernel) (R_ld sc33 h) ?_
                  intro v h
                  refine G_e 8 rfl (by decide +kernel) (N_cl Try.func11 rfl nn11 (fun w Q h => s11 _ _ w Q h) h ?_)
                  intro v w h
                  refine ⟨keepF_dep [7] (by decide +kernel) rfl (keepF_dep [3] (by decide +kernel) rfl keepF_nil), ?_⟩
                  refine G_done (by decide +kernel) ?_
                  refine E_n ?_
                  refine C_join (fun (k : Value → Value → Value → Value → Value → Value → Value → Value → M) (ρ : Nat → Value) => k (ρ 0) (ρ 1) (ρ 5) (ρ 7) (ρ 8) (ρ 9) (ρ 10) (ρ 11)) h (fun j6 J6 h => ?_) (fun ρ w h => ?_)
                  · refine C_cnd h (fun h => ?_) (fun h => ?_)
                    · refine L_region ?_
                      refine L_mv ?_
                      refine L_u (P_ad h) ?_
                      intro v w h
                      refine L_as ?_
                      refine L_nil ?_
                      exact J6 _ _ h
                    · refine C_skip ?_
                      exact J6 _ _ h
                  · unfold f6_j6 at h
                    refine E_n ?_
                    refine wp_seq ?_
                    refine D_region (by decide +kernel) 15 rfl ?_
                    replace h := dr_e h
                    refine G_p 0 rfl (by decide +kernel) (Y_mv h) ?_
                    intro v h
                    refine G_p 1 rfl (by decide +kernel) (Y_mv h) ?_
                    intro v h
                    refine G_p 2 rfl (by decide +kernel) (Y_lnl is22 h) ?_
                    intro v h
                    refine G_p 3 rfl (by decide +kernel) (Y_lt h) ?_
                    intro v h
                    refine G_p 4 rfl (by decide +kernel) (Y_mv h) ?_
                    intro v h
                    refine G_pg (t := 83) 5 rfl (by decide +kernel) h rfl rfl (fun h => Y_mv h) ?_
                    intro v h
                    refine G_pg (t := 83) 6 rfl (by decide +kernel) h rfl rfl (fun h => Y_mv h) ?_
                    intro v h
                    refine G_pg (t := 83) 7 rfl (by decide +kernel) h rfl rfl (fun h => Y_ia se22 h) ?_
                    intro v h
                    refine G_rg (t := 83) _ 8 rfl (by decide +kernel) h rfl rfl (fun h => R_ld sc33 h) ?_
                    intro v h
                    refine G_pg (t := 83) 9 rfl (by decide +kernel) h rfl rfl (fun h => Y_mv h) ?_
                    intro v h
                    refine G_pg (t := 83) 10 rfl (by decide +kernel) h rfl rfl (fun h => Y_mv h) ?_
                    intro v h
                    refine G_pg (t := 83) 11 rfl (by decide +kernel) h rfl rfl (fun h => Y_ia se22 h) ?_
                    intro v h
                    refine G_rg (t := 83) _ 12 rfl (by decide +kernel) h rfl rfl (fun h => R_ld sc33 h) ?_
                    intro v h
                    refine G_eg (t := 83) 13 rfl (by decide +kernel) h rfl rfl (fun c h => N_cl Try.func11 rfl nn11 (fun w Q h => s11 _ _ w Q h) h c) ?_
                    intro v w h
                    refine ⟨keepF_dep [12] (by decide +kernel) rfl (keepF_dep [8] (by decide +kernel) rfl keepF_nil), ?_⟩
                    refine G_p 14 rfl (by decide +kernel) (Y_pk h) ?_
                    intro v h
                    refine G_done (by decide +kernel) ?_
                    refine E_n ?_
                    refine C_join (fun (k : Value → Value → Value → Value → Value → Value → Value → Value → M) (ρ : Nat → Value) => k (ρ 0) (ρ 1) (ρ 5) (ρ 7) (ρ 8) (ρ 9) (ρ 10) (ρ 11)) h (fun j7 J7 h => ?_) (fun ρ w h => ?_)
                    · refine C_cnd h (fun h => ?_) (fun h => ?_)
                      · refine L_region ?_
                        refine L_mv ?_
                        refine L_u (P_su h) ?_
                        intro v w h
                        refine L_as ?_
                        refine L_nil ?_
                        exact J7 _ _ h
                      · refine C_skip ?_
                        exact J7 _ _ h
                    · unfold f6_j7 at h
                      refine B_n ?_
                      refine E_n ?_
                      refine L_region ?_
                      refine L_mv ?_
                      refine L_u (P_ad h) ?_
                      intro v w h
                      refine L_as ?_
                      refine L_nil ?_
                      refine E_n ?_
                      exact L5 _ _ h
                · refine C_exit ?_
                  refine E_x ?_
                  refine E_x ?_
                  refine B_x ?_
                  exact J4 _ _ h
              · unfold f6_j4 at h
                refine E_n ?_
                refine wp_seq ?_
                refine L_region ?_
                refine L_mv ?_
                refine L_u (P_nei h) ?_
                intro v w h
                refine L_nil ?_
                refine E_n ?_
                refine C_cnd h (fun h => ?_) (fun h => ?_)
                · refine wp_seq ?_
                  refine L_region ?_
                  refine L_as ?_
                  refine L_nil ?_
                  refine E_n ?_
                  refine C_ret ?_
                  show bodyPost Try.prog Try.f6 (Rt Q) .ret _ _
                  exact post_tmps (ts := [4]) (.inr rfl) rfl h
                · refine C_skip ?_
                  refine B_n ?_
                  refine E_n ?_
                  refine L_region ?_
                  refine L_mv ?_
                  refine L_u (P_ad h) ?_
                  intro v w h
                  refine L_as ?_
                  refine L_nil ?_
                  refine E_n ?_
                  exact L2 _ _ h
        · refine C_exit ?_
          refine E_x ?_
          refine E_x ?_
          refine B_x ?_
          exact J1 _ _ h
      · unfold f6_j1 at h
        refine E_n ?_
        refine wp_seq ?_
        refine L_region ?_
        refine L_mv ?_
        refine L_u (P_eqi h) ?_
        intro v w h
        refine L_mv ?_
        refine L_g (t := 100) h rfl rfl (fun c h => P_mv h c) ?_
        intro v w h
        refine L_g (t := 100) h rfl rfl (fun c h => P_lnl is22 h c) ?_
        intro v w h
        refine L_g (t := 100) h rfl rfl (fun c h => P_mv h c) ?_
        intro v w h
        refine L_g (t := 100) h rfl rfl (fun c h => P_lnl is22 h c) ?_
        intro v w h
        refine L_g (t := 100) h rfl rfl (fun c h => P_eqi h c) ?_
        intro v w h
        refine L_u (P_pk h) ?_
        intro v w h
        refine L_mv ?_
        refine L_g (t := 107) h rfl rfl (fun c h => P_mv h c) ?_
        intro v w h
        refine L_g (t := 107) h rfl rfl (fun c h => P_mv h c) ?_
        intro v w h
        refine L_g (t := 107) h rfl rfl (fun c h => N_cl Try.func13 rfl nn13 (fun w Q h => s13 _ _ w Q h) h c) ?_
        intro v w h
        refine L_u (P_pk h) ?_
        intro v w h
        refine L_as ?_
        refine L_nil ?_
        refine E_n ?_
        refine C_ret ?_
        show bodyPost Try.prog Try.f6 (Rt Q) .ret _ _
        exact post_tmps (ts := [4]) (.inr rfl) rfl h

/- factotum/factotumref02.Ahead -/
def f62_b2 (j1 : Value → Value → M) (self2 : Value → Value → Value → M) (t0_1 t1_1 t5 : Value) : M :=
  lns t0_1 fun t8 =>
  lt .i64 t5 t8 fun t9 =>
  gd t9 true (idv t5) fun t11 =>
  gd t9 true (idv t1_1) fun t12 =>
  gd t9 true (lns t12) fun t13 =>
  gd t9 true (lt .i64 t11 t13) fun t14 =>
  pk t9 t14 (.bool false) fun t15 =>
  cnd t15 (
    dr <|
    idv t0_1 fun t18 =>
    idv t5 fun t19 =>
    ixs t18 t19 fun t20 =>
    idv t1_1 fun t21 =>
    idv t5 fun t22 =>
    ixs t21 t22 fun t23 =>
    nei .u8 t20 t23 fun t24 =>
    cnd t24 (
      dr <|
      idv t0_1 fun t25 =>
      idv t5 fun t26 =>
      ixs t25 t26 fun t27 =>
      idv t1_1 fun t28 =>
      idv t5 fun t29 =>
      ixs t28 t29 fun t30 =>
      lt .u8 t27 t30 fun t31 =>
      idv t31 fun t4 =>
      rt t4
      ) (
      ad .i64 t5 (.int .i64 1) fun t17 =>
      self2 t0_1 t1_1 t17
      )
    ) (
    j1 t0_1 t1_1
    )
def f62_j1 (t0_2 t1_2 : Value) : M :=
  lns t0_2 fun t33 =>
  lns t1_2 fun t35 =>
  lt .i64 t33 t35 fun t36 =>
  rt t36
def f62 (t0 t1 : Value) : M :=
  jn (fun (j1 : Value → Value → M) =>
    lo (fun _ _ _ => bot) (f62_b2 j1) (fun l => l t0 t1 (.int .i64 0))
    ) (f62_j1)
theorem s62 (t0 t1 : Value) (w : World) (Q : Value → World → Prop) (h : f62 t0 t1 w Q) : Calls Try.prog 62 #[t0, t1] w (Rt Q) := by
  refine calls_of (l := [t0, t1]) Try.func62 rfl Try.ntmps62 (Nat.le_of_ble_eq_true rfl) ?_
  unfold f62 at h
  refine wp_seq ?_
  refine L_region ?_
  refine L_as ?_
  refine L_nil ?_
  refine E_n ?_
  refine wp_seq ?_
  refine wp_seq ?_
  refine L_region ?_
  refine L_as ?_
  refine L_nil ?_
  refine E_n ?_
  refine C_join (fun (k : Value → Value → M) (ρ : Nat → Value) => k (ρ 0) (ρ 1)) h (fun j1 J1 h => ?_) (fun ρ w h => ?_)
  · refine C_blk ?_
    refine C_lo (fun (l : Value → Value → Value → M) (ρ : Nat → Value) => l (ρ 0) (ρ 1) (ρ 5)) h (fun ρ w h => h) (fun nx self2 L2 ρ w h => ?_)
    unfold f62_b2 at h
    refine wp_seq ?_
    refine wp_seq ?_
    refine L_region ?_
    refine L_mv ?_
    refine L_mv ?_
    refine L_u (P_lns st9 h) ?_
    intro v w h
    refine L_u (P_lt h) ?_
    intro v w h
    refine L_mv ?_
    refine L_g (t := 10) h rfl rfl (fun c h => P_mv h c) ?_
    intro v w h
    refine L_g (t := 10) h rfl rfl (fun c h => P_mv h c) ?_
    intro v w h
    refine L_g (t := 10) h rfl rfl (fun c h => P_lns st9 h c) ?_
    intro v w h
    refine L_g (t := 10) h rfl rfl (fun c h => P_lt h c) ?_
    intro v w h
    refine L_u (P_pk h) ?_
    intro v w h
    refine L_nil ?_
    refine E_n ?_
    refine C_cnd h (fun h => ?_) (fun h => ?_)
    · refine C_skip ?_
      refine E_n ?_
      refine wp_seq ?_
      refine C_blk ?_
      refine wp_seq ?_
      refine D_region (by decide +kernel) 7 rfl ?_
      replace h := dr_e h
      refine G_p 0 rfl (by decide +kernel) (Y_mv h) ?_
      intro v h
      refine G_p 1 rfl (by decide +kernel) (Y_mv h) ?_
      intro v h
      refine G_p 2 rfl (by decide +kernel) (Y_ixs st9 h) ?_
      intro v h
      refine G_p 3 rfl (by decide +kernel) (Y_mv h) ?_
      intro v h
      refine G_p 4 rfl (by decide +kernel) (Y_mv h) ?_
      intro v h
      refine G_p 5 rfl (by decide +kernel) (Y_ixs st9 h) ?_
      intro v h
      refine G_p 6 rfl (by decide +kernel) (Y_nei h) ?_
      intro v h
      refine G_done (by decide +kernel) ?_
      refine E_n ?_
      refine C_cnd h (fun h => ?_) (fun h => ?_)
      · refine wp_seq ?_
        refine D_region (by decide +kernel) 8 rfl ?_
        replace h := dr_e h
        refine G_p 0 rfl (by decide +kernel) (Y_mv h) ?_
        intro v h
        refine G_p 1 rfl (by decide +kernel) (Y_mv h) ?_
        intro v h
        refine G_p 2 rfl (by decide +kernel) (Y_ixs st9 h) ?_
        intro v h
        refine G_p 3 rfl (by decide +kernel) (Y_mv h) ?_
        intro v h
        refine G_p 4 rfl (by decide +kernel) (Y_mv h) ?_
        intro v h
        refine G_p 5 rfl (by decide +kernel) (Y_ixs st9 h) ?_
        intro v h
        refine G_p 6 rfl (by decide +kernel) (Y_lt h) ?_
        intro v h
        refine G_p 7 rfl (by decide +kernel) (Y_as h) ?_
        intro v h
        refine G_done (by decide +kernel) ?_
        refine E_n ?_
        refine C_ret ?_
        show bodyPost Try.prog Try.f62 (Rt Q) .ret _ _
        exact post_tmps (ts := [4]) (.inr rfl) rfl h
      · refine C_skip ?_
        refine B_n ?_
        refine E_n ?_
        refine L_region ?_
        refine L_mv ?_
        refine L_u (P_ad h) ?_
        intro v w h
        refine L_as ?_
        refine L_nil ?_
        refine E_n ?_
        exact L2 _ _ h
    · refine C_exit ?_
      refine E_x ?_
      refine E_x ?_
      refine B_x ?_
      exact J1 _ _ h
  · unfold f62_j1 at h
    refine E_n ?_
    refine wp_seq ?_
    refine L_region ?_
    refine L_mv ?_
    refine L_u (P_lns st9 h) ?_
    intro v w h
    refine L_mv ?_
    refine L_u (P_lns st9 h) ?_
    intro v w h
    refine L_u (P_lt h) ?_
    intro v w h
    refine L_as ?_
    refine L_nil ?_
    refine E_n ?_
    refine C_ret ?_
    show bodyPost Try.prog Try.f62 (Rt Q) .ret _ _
    exact post_tmps (ts := [4]) (.inr rfl) rfl h

/- factotum/factotumref02.before -/
def f60 (t0 t1 : Value) : M :=
  bx 31 t0 fun t2 =>
  bx 31 t1 fun t3 =>
  fa 0 t2 fun t5 =>
  ld t5 fun t6 =>
  fa 0 t3 fun t7 =>
  ld t7 fun t8 =>
  nei .i64 t6 t8 fun t9 =>
  cnd t9 (
    fa 0 t2 fun t10 =>
    ld t10 fun t11 =>
    fa 0 t3 fun t12 =>
    ld t12 fun t13 =>
    lt .i64 t11 t13 fun t14 =>
    rt t14
    ) (
    fa 1 t2 fun t15 =>
    ld t15 fun t16 =>
    fa 1 t3 fun t17 =>
    ld t17 fun t18 =>
    nei .i64 t16 t18 fun t19 =>
    cnd t19 (
      fa 1 t2 fun t20 =>
      ld t20 fun t21 =>
      fa 1 t3 fun t22 =>
      ld t22 fun t23 =>
      lt .i64 t21 t23 fun t24 =>
      rt t24
      ) (
      fa 2 t2 fun t25 =>
      ld t25 fun t26 =>
      fa 2 t3 fun t27 =>
      ld t27 fun t28 =>
      cl (f62 t26 t28) fun t29 =>
      rt t29
      )
    )
theorem s60 (t0 t1 : Value) (w : World) (Q : Value → World → Prop) (h : f60 t0 t1 w Q) : Calls Try.prog 60 #[t0, t1] w (Rt Q) := by
  refine calls_of (l := [t0, t1]) Try.func60 rfl Try.ntmps60 (Nat.le_of_ble_eq_true rfl) ?_
  unfold f60 at h
  refine wp_seq ?_
  refine L_region ?_
  refine L_u (P_bx h) ?_
  intro v w h
  refine L_u (P_bx h) ?_
  intro v w h
  refine L_as ?_
  refine L_nil ?_
  refine E_n ?_
  refine wp_seq ?_
  refine wp_seq ?_
  refine L_region ?_
  refine L_u (P_fa fo31_0 h) ?_
  intro v w h
  refine L_u (P_ld sc29 h) ?_
  intro v w h
  refine L_u (P_fa fo31_0 h) ?_
  intro v w h
  refine L_u (P_ld sc29 h) ?_
  intro v w h
  refine L_u (P_nei h) ?_
  intro v w h
  refine L_nil ?_
  refine E_n ?_
  refine C_cnd h (fun h => ?_) (fun h => ?_)
  · refine wp_seq ?_
    refine L_region ?_
    refine L_u (P_fa fo31_0 h) ?_
    intro v w h
    refine L_u (P_ld sc29 h) ?_
    intro v w h
    refine L_u (P_fa fo31_0 h) ?_
    intro v w h
    refine L_u (P_ld sc29 h) ?_
    intro v w h
    refine L_u (P_lt h) ?_
    intro v w h
    refine L_as ?_
    refine L_nil ?_
    refine E_n ?_
    refine C_ret ?_
    show bodyPost Try.prog Try.f60 (Rt Q) .ret _ _
    exact post_tmps (ts := [4]) (.inr rfl) rfl h
  · refine C_skip ?_
    refine E_n ?_
    refine wp_seq ?_
    refine wp_seq ?_
    refine L_region ?_
    refine L_u (P_fa fo31_1 h) ?_
    intro v w h
    refine L_u (P_ld sc2 h) ?_
    intro v w h
    refine L_u (P_fa fo31_1 h) ?_
    intro v w h
    refine L_u (P_ld sc2 h) ?_
    intro v w h
    refine L_u (P_nei h) ?_
    intro v w h
    refine L_nil ?_
    refine E_n ?_
    refine C_cnd h (fun h => ?_) (fun h => ?_)
    · refine wp_seq ?_
      refine L_region ?_
      refine L_u (P_fa fo31_1 h) ?_
      intro v w h
      refine L_u (P_ld sc2 h) ?_
      intro v w h
      refine L_u (P_fa fo31_1 h) ?_
      intro v w h
      refine L_u (P_ld sc2 h) ?_
      intro v w h
      refine L_u (P_lt h) ?_
      intro v w h
      refine L_as ?_
      refine L_nil ?_
      refine E_n ?_
      refine C_ret ?_
      show bodyPost Try.prog Try.f60 (Rt Q) .ret _ _
      exact post_tmps (ts := [4]) (.inr rfl) rfl h
    · refine C_skip ?_
      refine E_n ?_
      refine wp_seq ?_
      refine L_region ?_
      refine L_u (P_fa fo31_2 h) ?_
      intro v w h
      refine L_u (P_ld sc9 h) ?_
      intro v w h
      refine L_u (P_fa fo31_2 h) ?_
      intro v w h
      refine L_u (P_ld sc9 h) ?_
      intro v w h
      refine L_u (N_cl Try.func62 rfl nn62 (fun w Q h => s62 _ _ w Q h) h) ?_
      intro v w h
      refine L_as ?_
      refine L_nil ?_
      refine E_n ?_
      refine C_ret ?_
      show bodyPost Try.prog Try.f60 (Rt Q) .ret _ _
      exact post_tmps (ts := [4]) (.inr rfl) rfl h

/- factotum/factotumref02.Compare -/
def f53_b2 (j1 : Value → Value → M) (self2 : Value → Value → Value → M) (t0_1 t1_1 t5 : Value) : M :=
  lnl t0_1 fun t8 =>
  lt .i64 t5 t8 fun t9 =>
  gd t9 true (idv t5) fun t11 =>
  gd t9 true (idv t1_1) fun t12 =>
  gd t9 true (lnl t12) fun t13 =>
  gd t9 true (lt .i64 t11 t13) fun t14 =>
  pk t9 t14 (.bool false) fun t15 =>
  cnd t15 (
    dr <|
    idv t0_1 fun t18 =>
    idv t5 fun t19 =>
    ia 3 t18 t19 fun t20 =>
    ldn 3 t20 fun t21 =>
    idv t1_1 fun t22 =>
    idv t5 fun t23 =>
    ia 3 t22 t23 fun t24 =>
    ldn 3 t24 fun t25 =>
    cl (f60 t21 t25) fun t26 =>
    cnd t26 (
      rt (.int .i64 (-1))
      ) (
      dr <|
      idv t1_1 fun t27 =>
      idv t5 fun t28 =>
      ia 3 t27 t28 fun t29 =>
      ldn 3 t29 fun t30 =>
      idv t0_1 fun t31 =>
      idv t5 fun t32 =>
      ia 3 t31 t32 fun t33 =>
      ldn 3 t33 fun t34 =>
      cl (f60 t30 t34) fun t35 =>
      cnd t35 (
        rt (.int .i64 1)
        ) (
        ad .i64 t5 (.int .i64 1) fun t17 =>
        self2 t0_1 t1_1 t17
        )
      )
    ) (
    j1 t0_1 t1_1
    )
def f53_j1 (t0_2 t1_2 : Value) : M :=
  lnl t0_2 fun t37 =>
  lnl t1_2 fun t39 =>
  lt .i64 t37 t39 fun t40 =>
  cnd t40 (
    rt (.int .i64 (-1))
    ) (
    lnl t0_2 fun t42 =>
    lnl t1_2 fun t44 =>
    gt .i64 t42 t44 fun t45 =>
    cnd t45 (
      rt (.int .i64 1)
      ) (
      rt (.int .i64 0)
      )
    )
def f53 (t0 t1 : Value) : M :=
  jn (fun (j1 : Value → Value → M) =>
    lo (fun _ _ _ => bot) (f53_b2 j1) (fun l => l t0 t1 (.int .i64 0))
    ) (f53_j1)
theorem s53 (t0 t1 : Value) (w : World) (Q : Value → World → Prop) (h : f53 t0 t1 w Q) : Calls Try.prog 53 #[t0, t1] w (Rt Q) := by
  refine calls_of (l := [t0, t1]) Try.func53 rfl Try.ntmps53 (Nat.le_of_ble_eq_true rfl) ?_
  unfold f53 at h
  refine wp_seq ?_
  refine L_region ?_
  refine L_as ?_
  refine L_nil ?_
  refine E_n ?_
  refine wp_seq ?_
  refine wp_seq ?_
  refine L_region ?_
  refine L_as ?_
  refine L_nil ?_
  refine E_n ?_
  refine C_join (fun (k : Value → Value → M) (ρ : Nat → Value) => k (ρ 0) (ρ 1)) h (fun j1 J1 h => ?_) (fun ρ w h => ?_)
  · refine C_blk ?_
    refine C_lo (fun (l : Value → Value → Value → M) (ρ : Nat → Value) => l (ρ 0) (ρ 1) (ρ 5)) h (fun ρ w h => h) (fun nx self2 L2 ρ w h => ?_)
    unfold f53_b2 at h
    refine wp_seq ?_
    refine wp_seq ?_
    refine L_region ?_
    refine L_mv ?_
    refine L_mv ?_
    refine L_u (P_lnl is32 h) ?_
    intro v w h
    refine L_u (P_lt h) ?_
    intro v w h
    refine L_mv ?_
    refine L_g (t := 10) h rfl rfl (fun c h => P_mv h c) ?_
    intro v w h
    refine L_g (t := 10) h rfl rfl (fun c h => P_mv h c) ?_
    intro v w h
    refine L_g (t := 10) h rfl rfl (fun c h => P_lnl is32 h c) ?_
    intro v w h
    refine L_g (t := 10) h rfl rfl (fun c h => P_lt h c) ?_
    intro v w h
    refine L_u (P_pk h) ?_
    intro v w h
    refine L_nil ?_
    refine E_n ?_
    refine C_cnd h (fun h => ?_) (fun h => ?_)
    · refine C_skip ?_
      refine E_n ?_
      refine wp_seq ?_
      refine C_blk ?_
      refine wp_seq ?_
      refine wp_seq ?_
      refine D_region (by decide +kernel) 9 rfl ?_
      replace h := dr_e h
      refine G_p 0 rfl (by decide +kernel) (Y_mv h) ?_
      intro v h
      refine G_p 1 rfl (by decide +kernel) (Y_mv h) ?_
      intro v h
      refine G_p 2 rfl (by decide +kernel) (Y_ia se32 h) ?_
      intro v h
      refine G_r _ 3 rfl (by decide +kernel) (R_ldn ag31 h) ?_
      intro v h
      refine G_p 4 rfl (by decide +kernel) (Y_mv h) ?_
      intro v h
      refine G_p 5 rfl (by decide +kernel) (Y_mv h) ?_
      intro v h
      refine G_p 6 rfl (by decide +kernel) (Y_ia se32 h) ?_
      intro v h
      refine G_r _ 7 rfl (by decide +kernel) (R_ldn ag31 h) ?_
      intro v h
      refine G_e 8 rfl (by decide +kernel) (N_cl Try.func60 rfl nn60 (fun w Q h => s60 _ _ w Q h) h ?_)
      intro v w h
      refine ⟨keepF_dep [7] (by decide +kernel) rfl (keepF_dep [3] (by decide +kernel) rfl keepF_nil), ?_⟩
      refine G_done (by decide +kernel) ?_
      refine E_n ?_
      refine C_cnd h (fun h => ?_) (fun h => ?_)
      · refine wp_seq ?_
        refine L_region ?_
        refine L_as ?_
        refine L_nil ?_
        refine E_n ?_
        refine C_ret ?_
        show bodyPost Try.prog Try.f53 (Rt Q) .ret _ _
        exact post_tmps (ts := [4]) (.inr rfl) rfl h
      · refine C_skip ?_
        refine E_n ?_
        refine wp_seq ?_
        refine D_region (by decide +kernel) 9 rfl ?_
        replace h := dr_e h
        refine G_p 0 rfl (by decide +kernel) (Y_mv h) ?_
        intro v h
        refine G_p 1 rfl (by decide +kernel) (Y_mv h) ?_
        intro v h
        refine G_p 2 rfl (by decide +kernel) (Y_ia se32 h) ?_
        intro v h
        refine G_r _ 3 rfl (by decide +kernel) (R_ldn ag31 h) ?_
        intro v h
        refine G_p 4 rfl (by decide +kernel) (Y_mv h) ?_
        intro v h
        refine G_p 5 rfl (by decide +kernel) (Y_mv h) ?_
        intro v h
        refine G_p 6 rfl (by decide +kernel) (Y_ia se32 h) ?_
        intro v h
        refine G_r _ 7 rfl (by decide +kernel) (R_ldn ag31 h) ?_
        intro v h
        refine G_e 8 rfl (by decide +kernel) (N_cl Try.func60 rfl nn60 (fun w Q h => s60 _ _ w Q h) h ?_)
        intro v w h
        refine ⟨keepF_dep [7] (by decide +kernel) rfl (keepF_dep [3] (by decide +kernel) rfl keepF_nil), ?_⟩
        refine G_done (by decide +kernel) ?_
        refine E_n ?_
        refine C_cnd h (fun h => ?_) (fun h => ?_)
        · refine wp_seq ?_
          refine L_region ?_
          refine L_as ?_
          refine L_nil ?_
          refine E_n ?_
          refine C_ret ?_
          show bodyPost Try.prog Try.f53 (Rt Q) .ret _ _
          exact post_tmps (ts := [4]) (.inr rfl) rfl h
        · refine C_skip ?_
          refine B_n ?_
          refine E_n ?_
          refine L_region ?_
          refine L_mv ?_
          refine L_u (P_ad h) ?_
          intro v w h
          refine L_as ?_
          refine L_nil ?_
          refine E_n ?_
          exact L2 _ _ h
    · refine C_exit ?_
      refine E_x ?_
      refine E_x ?_
      refine B_x ?_
      exact J1 _ _ h
  · unfold f53_j1 at h
    refine E_n ?_
    refine wp_seq ?_
    refine wp_seq ?_
    refine L_region ?_
    refine L_mv ?_
    refine L_u (P_lnl is32 h) ?_
    intro v w h
    refine L_mv ?_
    refine L_u (P_lnl is32 h) ?_
    intro v w h
    refine L_u (P_lt h) ?_
    intro v w h
    refine L_nil ?_
    refine E_n ?_
    refine C_cnd h (fun h => ?_) (fun h => ?_)
    · refine wp_seq ?_
      refine L_region ?_
      refine L_as ?_
      refine L_nil ?_
      refine E_n ?_
      refine C_ret ?_
      show bodyPost Try.prog Try.f53 (Rt Q) .ret _ _
      exact post_tmps (ts := [4]) (.inr rfl) rfl h
    · refine C_skip ?_
      refine E_n ?_
      refine wp_seq ?_
      refine wp_seq ?_
      refine L_region ?_
      refine L_mv ?_
      refine L_u (P_lnl is32 h) ?_
      intro v w h
      refine L_mv ?_
      refine L_u (P_lnl is32 h) ?_
      intro v w h
      refine L_u (P_gt h) ?_
      intro v w h
      refine L_nil ?_
      refine E_n ?_
      refine C_cnd h (fun h => ?_) (fun h => ?_)
      · refine wp_seq ?_
        refine L_region ?_
        refine L_as ?_
        refine L_nil ?_
        refine E_n ?_
        refine C_ret ?_
        show bodyPost Try.prog Try.f53 (Rt Q) .ret _ _
        exact post_tmps (ts := [4]) (.inr rfl) rfl h
      · refine C_skip ?_
        refine E_n ?_
        refine wp_seq ?_
        refine L_region ?_
        refine L_as ?_
        refine L_nil ?_
        refine E_n ?_
        refine C_ret ?_
        show bodyPost Try.prog Try.f53 (Rt Q) .ret _ _
        exact post_tmps (ts := [4]) (.inr rfl) rfl h

/- factotum/factotumref31.ahead -/
def f41 (t0 t1 : Value) : M :=
  bx 31 t0 fun t2 =>
  bx 31 t1 fun t3 =>
  ldn 3 t2 fun t5 =>
  sm Try.prog (Instr.buildSlice 32 1 #[(0, t5)]) fun t6 =>
  ldn 3 t3 fun t7 =>
  sm Try.prog (Instr.buildSlice 32 1 #[(0, t7)]) fun t8 =>
  cl (f53 t6 t8) fun t9 =>
  lt .i64 t9 (.int .i64 0) fun t10 =>
  rt t10
theorem s41 (t0 t1 : Value) (w : World) (Q : Value → World → Prop) (h : f41 t0 t1 w Q) : Calls Try.prog 41 #[t0, t1] w (Rt Q) := by
  refine calls_of (l := [t0, t1]) Try.func41 rfl Try.ntmps41 (Nat.le_of_ble_eq_true rfl) ?_
  unfold f41 at h
  refine wp_seq ?_
  refine L_region ?_
  refine L_u (P_bx h) ?_
  intro v w h
  refine L_u (P_bx h) ?_
  intro v w h
  refine L_as ?_
  refine L_nil ?_
  refine E_n ?_
  refine wp_seq ?_
  refine L_region ?_
  refine L_u (P_ldn ag31 h) ?_
  intro v w h
  refine L_u (N_bsl h) ?_
  intro v w h
  refine L_u (P_ldn ag31 h) ?_
  intro v w h
  refine L_u (N_bsl h) ?_
  intro v w h
  refine L_u (N_cl Try.func53 rfl nn53 (fun w Q h => s53 _ _ w Q h) h) ?_
  intro v w h
  refine L_u (P_lt h) ?_
  intro v w h
  refine L_as ?_
  refine L_nil ?_
  refine E_n ?_
  refine C_ret ?_
  show bodyPost Try.prog Try.f41 (Rt Q) .ret _ _
  exact post_tmps (ts := [4]) (.inr rfl) rfl h
end Go.Proofs.Ytlmiimojgledpaa
