/- Functions as predicate transformers, and that the machine does what they say, by program. -/
import Derived.Test.YtlmiimojgledpaaF0
set_option linter.unusedVariables false
set_option maxRecDepth 20000
set_option maxHeartbeats 4000000
namespace Go.Proofs.Ytlmiimojgledpaa
open Sh
attribute [local irreducible] wpL anyG act jn lo gdB amb kp smr nc fa ld ldn st stn ad su mu qu re lt le gt ge eqi nei bws shl shr cat eqs nes lts gts eqb neb nt pk cv al bx ex fld fldn lnl lns ia iaa ixs sls sll sla mif mnm mxm mm asrt sm smu cl cc cf ci cnd gd gdu
/- factotum/factotumref03.SameRows -/
def f13_b2 (j1 : M) (self2 : Value → Value → Value → M) (t0_1 t1_1 t5 : Value) : M :=
  lnl t0_1 fun t13 =>
  lt .i64 t5 t13 fun t14 =>
  cnd t14 (
    dr <|
    idv t0_1 fun t17 =>
    idv t5 fun t18 =>
    ia 1 t17 t18 fun t19 =>
    ld t19 fun t20 =>
    idv t1_1 fun t21 =>
    idv t5 fun t22 =>
    ia 1 t21 t22 fun t23 =>
    ld t23 fun t24 =>
    cl (f11 t20 t24) fun t25 =>
    nt t25 fun t26 =>
    cnd t26 (
      rt (.bool false)
      ) (
      ad .i64 t5 (.int .i64 1) fun t16 =>
      self2 t0_1 t1_1 t16
      )
    ) (
    j1
    )
def f13_j1 : M :=
  rt (.bool true)
def f13 (t0 t1 : Value) : M :=
  lnl t0 fun t7 =>
  lnl t1 fun t9 =>
  nei .i64 t7 t9 fun t10 =>
  cnd t10 (
    rt (.bool false)
    ) (
    jn (fun (j1 : M) =>
      lo (fun _ _ _ => bot) (f13_b2 j1) (fun l => l t0 t1 (.int .i64 0))
      ) (f13_j1)
    )
theorem s13 (t0 t1 : Value) (w : World) (Q : Value → World → Prop) (h : f13 t0 t1 w Q) : Calls Try.prog 13 #[t0, t1] w (Rt Q) := by
  refine calls_of (l := [t0, t1]) Try.func13 rfl Try.ntmps13 (Nat.le_of_ble_eq_true rfl) ?_
  unfold f13 at h
  refine wp_seq ?_
  refine L_region ?_
  refine L_as ?_
  refine L_nil ?_
  refine E_n ?_
  refine wp_seq ?_
  refine wp_seq ?_
  refine L_region ?_
  refine L_mv ?_
  refine L_u (P_lnl is22 h) ?_
  intro v w h
  refine L_mv ?_
  refine L_u (P_lnl is22 h) ?_
  intro v w h
  refine L_u (P_nei h) ?_
  intro v w h
  refine L_nil ?_
  refine E_n ?_
  refine C_cnd h (fun h => ?_) (fun h => ?_)
  · refine wp_seq ?_
    refine L_region ?_
    refine L_as ?_
    refine L_nil ?_
    refine E_n ?_
    refine C_ret ?_
    show bodyPost Try.prog Try.f13 (Rt Q) .ret _ _
    exact post_tmps (ts := [4]) (.inr rfl) rfl h
  · refine C_skip ?_
    refine E_n ?_
    refine wp_seq ?_
    refine wp_seq ?_
    refine L_region ?_
    refine L_as ?_
    refine L_nil ?_
    refine E_n ?_
    refine C_join (fun (k : M) (ρ : Nat → Value) => k) h (fun j1 J1 h => ?_) (fun ρ w h => ?_)
    · refine C_blk ?_
      refine C_lo (fun (l : Value → Value → Value → M) (ρ : Nat → Value) => l (ρ 0) (ρ 1) (ρ 5)) h (fun ρ w h => h) (fun nx self2 L2 ρ w h => ?_)
      unfold f13_b2 at h
      refine wp_seq ?_
      refine wp_seq ?_
      refine L_region ?_
      refine L_mv ?_
      refine L_mv ?_
      refine L_u (P_lnl is22 h) ?_
      intro v w h
      refine L_u (P_lt h) ?_
      intro v w h
      refine L_nil ?_
      refine E_n ?_
      refine C_cnd h (fun h => ?_) (fun h => ?_)
      · refine C_skip ?_
        refine E_n ?_
        refine wp_seq ?_
        refine C_blk ?_
        refine wp_seq ?_
        refine D_region (by decide +kernel) 10 rfl ?_
        replace h := dr_e h
        refine G_p 0 rfl (by decide +kernel) (Y_mv h) ?_
        intro v h
        refine G_p 1 rfl (by decide +kernel) (Y_mv h) ?_
        intro v h
        refine G_p 2 rfl (by decide +kernel) (Y_ia se22 h) ?_
        intro v h
        refine G_r _ 3 rfl (by decide +kernel) (R_ld sc33 h) ?_
        intro v h
        refine G_p 4 rfl (by decide +kernel) (Y_mv h) ?_
        intro v h
        refine G_p 5 rfl (by decide +kernel) (Y_mv h) ?_
        intro v h
        refine G_p 6 rfl (by decide +kernel) (Y_ia se22 h) ?_
        intro v h
        refine G_r _ 7 rfl (by decide +kernel) (R_ld sc33 h) ?_
        intro v h
        refine G_e 8 rfl (by decide +kernel) (N_cl Try.func11 rfl nn11 (fun w Q h => s11 _ _ w Q h) h ?_)
        intro v w h
        refine ⟨keepF_dep [7] (by decide +kernel) rfl (keepF_dep [3] (by decide +kernel) rfl keepF_nil), ?_⟩
        refine G_p 9 rfl (by decide +kernel) (Y_nt h) ?_
        intro v h
        refine G_done (by decide +kernel) ?_
        refine E_n ?_
        refine C_cnd h (fun h => ?_) (fun h => ?_)
        · refine wp_seq ?_
          refine L_region ?_
          refine L_as ?_
          refine L_nil ?_
          refine E_n ?_
          refine C_ret ?_
          show bodyPost Try.prog Try.f13 (Rt Q) .ret _ _
          exact post_tmps (ts := [4]) (.inr rfl) rfl h
        · refine C_skip ?_
          refine B_n ?_
          refine E_n ?_
          refine L_region ?_
          refine L_mv ?_
          refine L_u (P_ad h) ?_
          intro v w h
          refine L_as ?_
          refine L_nil ?_
          refine E_n ?_
          exact L2 _ _ h
      · refine C_exit ?_
        refine E_x ?_
        refine E_x ?_
        refine B_x ?_
        exact J1 _ _ h
    · unfold f13_j1 at h
      refine E_n ?_
      refine wp_seq ?_
      refine L_region ?_
      refine L_as ?_
      refine L_nil ?_
      refine E_n ?_
      refine C_ret ?_
      show bodyPost Try.prog Try.f13 (Rt Q) .ret _ _
      exact post_tmps (ts := [4]) (.inr rfl) rfl h

/- factotum/factotumref31.Has -/
def f31_b2 (j1 : M) (self2 : Value → Value → Value → M) (t0_1 t1_1 t5 : Value) : M :=
  lnl t0_1 fun t8 =>
  lt .i64 t5 t8 fun t9 =>
  cnd t9 (
    ia 1 t0_1 t5 fun t14 =>
    ld t14 fun t15 =>
    cl (f11 t15 t1_1) fun t17 =>
    cnd t17 (
      rt (.bool true)
      ) (
      ad .i64 t5 (.int .i64 1) fun t11 =>
      self2 t0_1 t1_1 t11
      )
    ) (
    j1
    )
def f31_j1 : M :=
  rt (.bool false)
def f31 (t0 t1 : Value) : M :=
  jn (fun (j1 : M) =>
    lo (fun _ _ _ => bot) (f31_b2 j1) (fun l => l t0 t1 (.int .i64 0))
    ) (f31_j1)
theorem s31 (t0 t1 : Value) (w : World) (Q : Value → World → Prop) (h : f31 t0 t1 w Q) : Calls Try.prog 31 #[t0, t1] w (Rt Q) := by
  refine calls_of (l := [t0, t1]) Try.func31 rfl Try.ntmps31 (Nat.le_of_ble_eq_true rfl) ?_
  unfold f31 at h
  refine wp_seq ?_
  refine L_region ?_
  refine L_as ?_
  refine L_nil ?_
  refine E_n ?_
  refine wp_seq ?_
  refine wp_seq ?_
  refine L_region ?_
  refine L_as ?_
  refine L_nil ?_
  refine E_n ?_
  refine C_join (fun (k : M) (ρ : Nat → Value) => k) h (fun j1 J1 h => ?_) (fun ρ w h => ?_)
  · refine C_blk ?_
    refine C_lo (fun (l : Value → Value → Value → M) (ρ : Nat → Value) => l (ρ 0) (ρ 1) (ρ 5)) h (fun ρ w h => h) (fun nx self2 L2 ρ w h => ?_)
    unfold f31_b2 at h
    refine wp_seq ?_
    refine wp_seq ?_
    refine L_region ?_
    refine L_mv ?_
    refine L_mv ?_
    refine L_u (P_lnl is22 h) ?_
    intro v w h
    refine L_u (P_lt h) ?_
    intro v w h
    refine L_nil ?_
    refine E_n ?_
    refine C_cnd h (fun h => ?_) (fun h => ?_)
    · refine C_skip ?_
      refine E_n ?_
      refine wp_seq ?_
      refine C_blk ?_
      refine wp_seq ?_
      refine L_region ?_
      refine L_mv ?_
      refine L_mv ?_
      refine L_u (P_ia se22 h) ?_
      intro v w h
      refine L_u (P_ld sc33 h) ?_
      intro v w h
      refine L_mv ?_
      refine L_u (N_cl Try.func11 rfl nn11 (fun w Q h => s11 _ _ w Q h) h) ?_
      intro v w h
      refine L_nil ?_
      refine E_n ?_
      refine C_cnd h (fun h => ?_) (fun h => ?_)
      · refine wp_seq ?_
        refine L_region ?_
        refine L_as ?_
        refine L_nil ?_
        refine E_n ?_
        refine C_ret ?_
        show bodyPost Try.prog Try.f31 (Rt Q) .ret _ _
        exact post_tmps (ts := [4]) (.inr rfl) rfl h
      · refine C_skip ?_
        refine B_n ?_
        refine E_n ?_
        refine L_region ?_
        refine L_mv ?_
        refine L_u (P_ad h) ?_
        intro v w h
        refine L_as ?_
        refine L_nil ?_
        refine E_n ?_
        exact L2 _ _ h
    · refine C_exit ?_
      refine E_x ?_
      refine E_x ?_
      refine B_x ?_
      exact J1 _ _ h
  · unfold f31_j1 at h
    refine E_n ?_
    refine wp_seq ?_
    refine L_region ?_
    refine L_as ?_
    refine L_nil ?_
    refine E_n ?_
    refine C_ret ?_
    show bodyPost Try.prog Try.f31 (Rt Q) .ret _ _
    exact post_tmps (ts := [4]) (.inr rfl) rfl h

/- factotum/factotumref31.Once -/
def f15_j3 (self2 : Value → Value → Value → M) (t0_2 t3_1 t4_1 : Value) : M :=
  ad .i64 t4_1 (.int .i64 1) fun t10 =>
  self2 t0_2 t3_1 t10
def f15_b2 (j1 : Value → M) (self2 : Value → Value → Value → M) (t0_1 t3 t4 : Value) : M :=
  lnl t0_1 fun t7 =>
  lt .i64 t4 t7 fun t8 =>
  cnd t8 (
    ia 1 t0_1 t4 fun t14 =>
    ld t14 fun t15 =>
    cl (f31 t3 t15) fun t16 =>
    nt t16 fun t17 =>
    jn (fun (j3 : Value → Value → Value → M) =>
      cnd t17 (
        ia 1 t0_1 t4 fun t21 =>
        ld t21 fun t22 =>
        sm Try.prog (Instr.buildSlice 22 1 #[(0, t22)]) fun t23 =>
        sm Try.prog (Builtin.append_ #[22, 22] 22 #[t3, t23]) fun t24 =>
        j3 t0_1 t24 t4
        ) (
        j3 t0_1 t3 t4
        )
      ) (f15_j3 self2)
    ) (
    j1 t3
    )
def f15_j1 (t3_2 : Value) : M :=
  rt t3_2
def f15 (t0 : Value) : M :=
  jn (fun (j1 : Value → M) =>
    lo (fun _ _ _ => bot) (f15_b2 j1) (fun l => l t0 (.slice none 0 0) (.int .i64 0))
    ) (f15_j1)
theorem s15 (t0 : Value) (w : World) (Q : Value → World → Prop) (h : f15 t0 w Q) : Calls Try.prog 15 #[t0] w (Rt Q) := by
  refine calls_of (l := [t0]) Try.func15 rfl Try.ntmps15 (Nat.le_of_ble_eq_true rfl) ?_
  unfold f15 at h
  refine wp_seq ?_
  refine L_region ?_
  refine L_as ?_
  refine L_nil ?_
  refine E_n ?_
  refine wp_seq ?_
  refine L_region ?_
  refine L_as ?_
  refine L_nil ?_
  refine E_n ?_
  refine wp_seq ?_
  refine wp_seq ?_
  refine L_region ?_
  refine L_as ?_
  refine L_nil ?_
  refine E_n ?_
  refine C_join (fun (k : Value → M) (ρ : Nat → Value) => k (ρ 3)) h (fun j1 J1 h => ?_) (fun ρ w h => ?_)
  · refine C_blk ?_
    refine C_lo (fun (l : Value → Value → Value → M) (ρ : Nat → Value) => l (ρ 0) (ρ 3) (ρ 4)) h (fun ρ w h => h) (fun nx self2 L2 ρ w h => ?_)
    unfold f15_b2 at h
    refine wp_seq ?_
    refine wp_seq ?_
    refine L_region ?_
    refine L_mv ?_
    refine L_mv ?_
    refine L_u (P_lnl is22 h) ?_
    intro v w h
    refine L_u (P_lt h) ?_
    intro v w h
    refine L_nil ?_
    refine E_n ?_
    refine C_cnd h (fun h => ?_) (fun h => ?_)
    · refine C_skip ?_
      refine E_n ?_
      refine wp_seq ?_
      refine C_blk ?_
      refine wp_seq ?_
      refine L_region ?_
      refine L_mv ?_
      refine L_mv ?_
      refine L_mv ?_
      refine L_u (P_ia se22 h) ?_
      intro v w h
      refine L_u (P_ld sc33 h) ?_
      intro v w h
      refine L_u (N_cl Try.func31 rfl nn31 (fun w Q h => s31 _ _ w Q h) h) ?_
      intro v w h
      refine L_u (P_nt h) ?_
      intro v w h
      refine L_nil ?_
      refine E_n ?_
      refine C_join (fun (k : Value → Value → Value → M) (ρ : Nat → Value) => k (ρ 0) (ρ 3) (ρ 4)) h (fun j3 J3 h => ?_) (fun ρ w h => ?_)
      · refine C_cnd h (fun h => ?_) (fun h => ?_)
        · refine L_region ?_
          refine L_mv ?_
          refine L_mv ?_
          refine L_mv ?_
          refine L_u (P_ia se22 h) ?_
          intro v w h
          refine L_u (P_ld sc33 h) ?_
          intro v w h
          refine L_u (N_bsl h) ?_
          intro v w h
          refine L_u (N_bi rfl h) ?_
          intro v w h
          refine L_as ?_
          refine L_nil ?_
          exact J3 _ _ h
        · refine C_skip ?_
          exact J3 _ _ h
      · unfold f15_j3 at h
        refine B_n ?_
        refine E_n ?_
        refine L_region ?_
        refine L_mv ?_
        refine L_u (P_ad h) ?_
        intro v w h
        refine L_as ?_
        refine L_nil ?_
        refine E_n ?_
        exact L2 _ _ h
    · refine C_exit ?_
      refine E_x ?_
      refine E_x ?_
      refine B_x ?_
      exact J1 _ _ h
  · unfold f15_j1 at h
    refine E_n ?_
    refine wp_seq ?_
    refine L_region ?_
    refine L_mv ?_
    refine L_as ?_
    refine L_nil ?_
    refine E_n ?_
    refine C_ret ?_
    show bodyPost Try.prog Try.f15 (Rt Q) .ret _ _
    exact post_tmps (ts := [2]) (.inr rfl) rfl h

/- factotum/relate.keep -/
def f32_j3 (self2 : Value → Value → Value → Value → Value → M) (t1_2 t5_1 t8_1 t9_2 t10_1 : Value) : M :=
  ad .i64 t10_1 (.int .i64 1) fun t22 =>
  self2 t1_2 t5_1 t8_1 t9_2 t22
def f32_b2 (j1 : Value → M) (self2 : Value → Value → Value → Value → Value → M) (t1_1 t5 t8 t9_1 t10 : Value) : M :=
  lt .i64 t10 t9_1 fun t11 =>
  cnd t11 (
    ia 1 t8 t10 fun t12 =>
    ld t12 fun t13 =>
    cf Try.prog t1_1 #[t13] fun t16 =>
    jn (fun (j3 : Value → Value → Value → Value → Value → M) =>
      cnd t16 (
        cl (f30 t13) fun t19 =>
        sm Try.prog (Instr.buildSlice 22 1 #[(0, t19)]) fun t20 =>
        sm Try.prog (Builtin.append_ #[22, 22] 22 #[t5, t20]) fun t21 =>
        j3 t1_1 t21 t8 t9_1 t10
        ) (
        j3 t1_1 t5 t8 t9_1 t10
        )
      ) (f32_j3 self2)
    ) (
    j1 t5
    )
def f32_j1 (t5_2 : Value) : M :=
  rt t5_2
def f32 (t0 t1 : Value) : M :=
  lnl t0 fun t9 =>
  jn (fun (j1 : Value → M) =>
    lo (fun _ _ _ _ _ => bot) (f32_b2 j1) (fun l => l t1 (.slice none 0 0) t0 t9 (.int .i64 0))
    ) (f32_j1)
theorem s32 (t0 t1 : Value) (w : World) (Q : Value → World → Prop) (h : f32 t0 t1 w Q) : Calls Try.prog 32 #[t0, t1] w (Rt Q) := by
  refine calls_of (l := [t0, t1]) Try.func32 rfl Try.ntmps32 (Nat.le_of_ble_eq_true rfl) ?_
  unfold f32 at h
  refine wp_seq ?_
  refine L_region ?_
  refine L_as ?_
  refine L_nil ?_
  refine E_n ?_
  refine wp_seq ?_
  refine L_region ?_
  refine L_as ?_
  refine L_nil ?_
  refine E_n ?_
  refine wp_seq ?_
  refine wp_seq ?_
  refine L_region ?_
  refine L_mv ?_
  refine L_u (P_lnl is22 h) ?_
  intro v w h
  refine L_mv ?_
  refine L_nil ?_
  refine E_n ?_
  refine C_join (fun (k : Value → M) (ρ : Nat → Value) => k (ρ 5)) h (fun j1 J1 h => ?_) (fun ρ w h => ?_)
  · refine C_blk ?_
    refine C_lo (fun (l : Value → Value → Value → Value → Value → M) (ρ : Nat → Value) => l (ρ 1) (ρ 5) (ρ 8) (ρ 9) (ρ 10)) h (fun ρ w h => h) (fun nx self2 L2 ρ w h => ?_)
    unfold f32_b2 at h
    refine wp_seq ?_
    refine L_region ?_
    refine L_u (P_lt h) ?_
    intro v w h
    refine L_nil ?_
    refine E_n ?_
    refine wp_seq ?_
    refine C_cnd h (fun h => ?_) (fun h => ?_)
    · refine C_skip ?_
      refine E_n ?_
      refine wp_seq ?_
      refine C_blk ?_
      refine wp_seq ?_
      refine L_region ?_
      refine L_u (P_ia se22 h) ?_
      intro v w h
      refine L_u (P_ld sc33 h) ?_
      intro v w h
      refine L_as ?_
      refine L_nil ?_
      refine E_n ?_
      refine wp_seq ?_
      refine L_region ?_
      refine L_mv ?_
      refine L_mv ?_
      refine L_u (N_cf h) ?_
      intro v w h
      refine L_nil ?_
      refine E_n ?_
      refine C_join (fun (k : Value → Value → Value → Value → Value → M) (ρ : Nat → Value) => k (ρ 1) (ρ 5) (ρ 8) (ρ 9) (ρ 10)) h (fun j3 J3 h => ?_) (fun ρ w h => ?_)
      · refine C_cnd h (fun h => ?_) (fun h => ?_)
        · refine L_region ?_
          refine L_mv ?_
          refine L_mv ?_
          refine L_u (N_cl Try.func30 rfl nn30 (fun w Q h => s30 _ w Q h) h) ?_
          intro v w h
          refine L_u (N_bsl h) ?_
          intro v w h
          refine L_u (N_bi rfl h) ?_
          intro v w h
          refine L_as ?_
          refine L_nil ?_
          exact J3 _ _ h
        · refine C_skip ?_
          exact J3 _ _ h
      · unfold f32_j3 at h
        refine B_n ?_
        refine E_n ?_
        refine L_region ?_
        refine L_u (P_ad h) ?_
        intro v w h
        refine L_mv ?_
        refine L_nil ?_
        refine E_n ?_
        exact L2 _ _ h
    · refine C_exit ?_
      refine E_x ?_
      refine E_x ?_
      refine B_x ?_
      exact J1 _ _ h
  · unfold f32_j1 at h
    refine E_n ?_
    refine wp_seq ?_
    refine L_region ?_
    refine L_mv ?_
    refine L_as ?_
    refine L_nil ?_
    refine E_n ?_
    refine C_ret ?_
    show bodyPost Try.prog Try.f32 (Rt Q) .ret _ _
    exact post_tmps (ts := [4]) (.inr rfl) rfl h

/- factotum/relate.Minus$1 -/
def f33 (t0 t1 : Value) : M :=
  ld t1 fun t4 =>
  cl (f29 t4 t0) fun t6 =>
  nt t6 fun t7 =>
  rt t7
theorem s33 (t0 t1 : Value) (w : World) (Q : Value → World → Prop) (h : f33 t0 t1 w Q) : Calls Try.prog 33 #[t0, t1] w (Rt Q) := by
  refine calls_of (l := [t0, t1]) Try.func33 rfl Try.ntmps33 (Nat.le_of_ble_eq_true rfl) ?_
  unfold f33 at h
  refine wp_seq ?_
  refine L_region ?_
  refine L_as ?_
  refine L_nil ?_
  refine E_n ?_
  refine wp_seq ?_
  refine L_region ?_
  refine L_u (P_ld sc22 h) ?_
  intro v w h
  refine L_mv ?_
  refine L_u (N_cl Try.func29 rfl nn29 (fun w Q h => s29 _ _ w Q h) h) ?_
  intro v w h
  refine L_u (P_nt h) ?_
  intro v w h
  refine L_as ?_
  refine L_nil ?_
  refine E_n ?_
  refine C_ret ?_
  show bodyPost Try.prog Try.f33 (Rt Q) .ret _ _
  exact post_tmps (ts := [3]) (.inr rfl) rfl h

/- factotum/relate.Minus -/
def f16 (t0 t1 : Value) : M :=
  bx 22 t1 fun t3 =>
  idv (.func (.func 33) #[] #[t3]) fun t6 =>
  cl (f32 t0 t6) fun t7 =>
  rt t7
theorem s16 (t0 t1 : Value) (w : World) (Q : Value → World → Prop) (h : f16 t0 t1 w Q) : Calls Try.prog 16 #[t0, t1] w (Rt Q) := by
  refine calls_of (l := [t0, t1]) Try.func16 rfl Try.ntmps16 (Nat.le_of_ble_eq_true rfl) ?_
  unfold f16 at h
  refine wp_seq ?_
  refine L_region ?_
  refine L_u (P_bx h) ?_
  intro v w h
  refine L_as ?_
  refine L_nil ?_
  refine E_n ?_
  refine wp_seq ?_
  refine L_region ?_
  refine L_mv ?_
  refine L_u (N_mf h) ?_
  intro v w h
  refine L_u (N_cl Try.func32 rfl nn32 (fun w Q h => s32 _ _ w Q h) h) ?_
  intro v w h
  refine L_as ?_
  refine L_nil ?_
  refine E_n ?_
  refine C_ret ?_
  show bodyPost Try.prog Try.f16 (Rt Q) .ret _ _
  exact post_tmps (ts := [4]) (.inr rfl) rfl h

/- factotum/factotumref31.Minus -/
def f17_j3 (self2 : Value → Value → Value → Value → M) (t0_2 t1_2 t5_1 t6_1 : Value) : M :=
  ad .i64 t6_1 (.int .i64 1) fun t12 =>
  self2 t0_2 t1_2 t5_1 t12
def f17_b2 (j1 : Value → M) (self2 : Value → Value → Value → Value → M) (t0_1 t1_1 t5 t6 : Value) : M :=
  lnl t0_1 fun t9 =>
  lt .i64 t6 t9 fun t10 =>
  cnd t10 (
    ia 1 t0_1 t6 fun t16 =>
    ld t16 fun t17 =>
    cl (f31 t1_1 t17) fun t18 =>
    nt t18 fun t19 =>
    jn (fun (j3 : Value → Value → Value → Value → M) =>
      cnd t19 (
        ia 1 t0_1 t6 fun t23 =>
        ld t23 fun t24 =>
        sm Try.prog (Instr.buildSlice 22 1 #[(0, t24)]) fun t25 =>
        sm Try.prog (Builtin.append_ #[22, 22] 22 #[t5, t25]) fun t26 =>
        j3 t0_1 t1_1 t26 t6
        ) (
        j3 t0_1 t1_1 t5 t6
        )
      ) (f17_j3 self2)
    ) (
    j1 t5
    )
def f17_j1 (t5_2 : Value) : M :=
  rt t5_2
def f17 (t0 t1 : Value) : M :=
  jn (fun (j1 : Value → M) =>
    lo (fun _ _ _ _ => bot) (f17_b2 j1) (fun l => l t0 t1 (.slice none 0 0) (.int .i64 0))
    ) (f17_j1)
theorem s17 (t0 t1 : Value) (w : World) (Q : Value → World → Prop) (h : f17 t0 t1 w Q) : Calls Try.prog 17 #[t0, t1] w (Rt Q) := by
  refine calls_of (l := [t0, t1]) Try.func17 rfl Try.ntmps17 (Nat.le_of_ble_eq_true rfl) ?_
  unfold f17 at h
  refine wp_seq ?_
  refine L_region ?_
  refine L_as ?_
  refine L_nil ?_
  refine E_n ?_
  refine wp_seq ?_
  refine L_region ?_
  refine L_as ?_
  refine L_nil ?_
  refine E_n ?_
  refine wp_seq ?_
  refine wp_seq ?_
  refine L_region ?_
  refine L_as ?_
  refine L_nil ?_
  refine E_n ?_
  refine C_join (fun (k : Value → M) (ρ : Nat → Value) => k (ρ 5)) h (fun j1 J1 h => ?_) (fun ρ w h => ?_)
  · refine C_blk ?_
    refine C_lo (fun (l : Value → Value → Value → Value → M) (ρ : Nat → Value) => l (ρ 0) (ρ 1) (ρ 5) (ρ 6)) h (fun ρ w h => h) (fun nx self2 L2 ρ w h => ?_)
    unfold f17_b2 at h
    refine wp_seq ?_
    refine wp_seq ?_
    refine L_region ?_
    refine L_mv ?_
    refine L_mv ?_
    refine L_u (P_lnl is22 h) ?_
    intro v w h
    refine L_u (P_lt h) ?_
    intro v w h
    refine L_nil ?_
    refine E_n ?_
    refine C_cnd h (fun h => ?_) (fun h => ?_)
    · refine C_skip ?_
      refine E_n ?_
      refine wp_seq ?_
      refine C_blk ?_
      refine wp_seq ?_
      refine L_region ?_
      refine L_mv ?_
      refine L_mv ?_
      refine L_mv ?_
      refine L_u (P_ia se22 h) ?_
      intro v w h
      refine L_u (P_ld sc33 h) ?_
      intro v w h
      refine L_u (N_cl Try.func31 rfl nn31 (fun w Q h => s31 _ _ w Q h) h) ?_
      intro v w h
      refine L_u (P_nt h) ?_
      intro v w h
      refine L_nil ?_
      refine E_n ?_
      refine C_join (fun (k : Value → Value → Value → Value → M) (ρ : Nat → Value) => k (ρ 0) (ρ 1) (ρ 5) (ρ 6)) h (fun j3 J3 h => ?_) (fun ρ w h => ?_)
      · refine C_cnd h (fun h => ?_) (fun h => ?_)
        · refine L_region ?_
          refine L_mv ?_
          refine L_mv ?_
          refine L_mv ?_
          refine L_u (P_ia se22 h) ?_
          intro v w h
          refine L_u (P_ld sc33 h) ?_
          intro v w h
          refine L_u (N_bsl h) ?_
          intro v w h
          refine L_u (N_bi rfl h) ?_
          intro v w h
          refine L_as ?_
          refine L_nil ?_
          exact J3 _ _ h
        · refine C_skip ?_
          exact J3 _ _ h
      · unfold f17_j3 at h
        refine B_n ?_
        refine E_n ?_
        refine L_region ?_
        refine L_mv ?_
        refine L_u (P_ad h) ?_
        intro v w h
        refine L_as ?_
        refine L_nil ?_
        refine E_n ?_
        exact L2 _ _ h
    · refine C_exit ?_
      refine E_x ?_
      refine E_x ?_
      refine B_x ?_
      exact J1 _ _ h
  · unfold f17_j1 at h
    refine E_n ?_
    refine wp_seq ?_
    refine L_region ?_
    refine L_mv ?_
    refine L_as ?_
    refine L_nil ?_
    refine E_n ?_
    refine C_ret ?_
    show bodyPost Try.prog Try.f17 (Rt Q) .ret _ _
    exact post_tmps (ts := [4]) (.inr rfl) rfl h

/- factotum/factotumlaw31.RelateTwo -/
def f4 (t0 t1 t2 : Value) : M :=
  bx 23 t2 fun t5 =>
  cl (f8) fun t11 =>
  nt t11 fun t12 =>
  cnd t12 (
    rt (.bool false)
    ) (
    cl (f9 t0) fun t14 =>
    cl (f9 t1) fun t16 =>
    iaa 2 1 t5 (.int .i64 0) fun t20 =>
    ld t20 fun t21 =>
    iaa 2 1 t5 (.int .i64 1) fun t22 =>
    ld t22 fun t23 =>
    cl (f10 t14 t16 t21 t23) fun t24 =>
    ex 0 t24 fun t25 =>
    ex 1 t24 fun t26 =>
    iaa 2 1 t5 (.int .i64 0) fun t30 =>
    ld t30 fun t31 =>
    iaa 2 1 t5 (.int .i64 1) fun t32 =>
    ld t32 fun t33 =>
    cl (f12 t14 t16 t31 t33) fun t34 =>
    ex 0 t34 fun t35 =>
    ex 1 t34 fun t36 =>
    eqi .i64 t26 t36 fun t39 =>
    gd t39 true (idv t25) fun t41 =>
    gd t39 true (idv t35) fun t42 =>
    gd t39 true (cl (f13 t41 t42)) fun t43 =>
    pk t39 t43 (.bool false) fun t44 =>
    gd t44 true (idv t14) fun t46 =>
    gd t44 true (cl (f14 t46)) fun t47 =>
    gd t44 true (idv t14) fun t48 =>
    gd t44 true (cl (f15 t48)) fun t49 =>
    gd t44 true (cl (f13 t47 t49)) fun t50 =>
    pk t44 t50 (.bool false) fun t51 =>
    gd t51 true (idv t14) fun t53 =>
    gd t51 true (idv t16) fun t54 =>
    gd t51 true (cl (f16 t53 t54)) fun t55 =>
    gd t51 true (idv t14) fun t56 =>
    gd t51 true (idv t16) fun t57 =>
    gd t51 true (cl (f17 t56 t57)) fun t58 =>
    gd t51 true (cl (f13 t55 t58)) fun t59 =>
    pk t51 t59 (.bool false) fun t60 =>
    rt t60
    )
theorem s4 (t0 t1 t2 : Value) (w : World) (Q : Value → World → Prop) (h : f4 t0 t1 t2 w Q) : Calls Try.prog 4 #[t0, t1, t2] w (Rt Q) := by
  refine calls_of (l := [t0, t1, t2]) Try.func4 rfl Try.ntmps4 (Nat.le_of_ble_eq_true rfl) ?_
  unfold f4 at h
  refine wp_seq ?_
  refine L_region ?_
  refine L_u (P_bx h) ?_
  intro v w h
  refine L_as ?_
  refine L_nil ?_
  refine E_n ?_
  refine wp_seq ?_
  refine wp_seq ?_
  refine L_region ?_
  refine L_u (N_cl Try.func8 rfl nn8 (fun w Q h => s8 w Q h) h) ?_
  intro v w h
  refine L_u (P_nt h) ?_
  intro v w h
  refine L_nil ?_
  refine E_n ?_
  refine C_cnd h (fun h => ?_) (fun h => ?_)
  · refine wp_seq ?_
    refine L_region ?_
    refine L_as ?_
    refine L_nil ?_
    refine E_n ?_
    refine C_ret ?_
    show bodyPost Try.prog Try.f4 (Rt Q) .ret _ _
    exact post_tmps (ts := [6]) (.inr rfl) rfl h
  · refine C_skip ?_
    refine E_n ?_
    refine wp_seq ?_
    refine L_region ?_
    refine L_mv ?_
    refine L_u (N_cl Try.func9 rfl nn9 (fun w Q h => s9 _ w Q h) h) ?_
    intro v w h
    refine L_mv ?_
    refine L_u (N_cl Try.func9 rfl nn9 (fun w Q h => s9 _ w Q h) h) ?_
    intro v w h
    refine L_as ?_
    refine L_as ?_
    refine L_nil ?_
    refine E_n ?_
    refine wp_seq ?_
    refine L_region ?_
    refine L_mv ?_
    refine L_mv ?_
    refine L_u (P_iaa ae23 h) ?_
    intro v w h
    refine L_u (P_ld sc3 h) ?_
    intro v w h
    refine L_u (P_iaa ae23 h) ?_
    intro v w h
    refine L_u (P_ld sc3 h) ?_
    intro v w h
    refine L_u (N_cl Try.func10 rfl nn10 (fun w Q h => s10 _ _ _ _ w Q h) h) ?_
    intro v w h
    refine L_mv ?_
    refine L_u (P_ex h) ?_
    intro v w h
    refine L_u (P_ex h) ?_
    intro v w h
    refine L_as ?_
    refine L_as ?_
    refine L_nil ?_
    refine E_n ?_
    refine wp_seq ?_
    refine L_region ?_
    refine L_mv ?_
    refine L_mv ?_
    refine L_u (P_iaa ae23 h) ?_
    intro v w h
    refine L_u (P_ld sc3 h) ?_
    intro v w h
    refine L_u (P_iaa ae23 h) ?_
    intro v w h
    refine L_u (P_ld sc3 h) ?_
    intro v w h
    refine L_u (N_cl Try.func12 rfl nn12 (fun w Q h => s12 _ _ _ _ w Q h) h) ?_
    intro v w h
    refine L_mv ?_
    refine L_u (P_ex h) ?_
    intro v w h
    refine L_u (P_ex h) ?_
    intro v w h
    refine L_as ?_
    refine L_as ?_
    refine L_nil ?_
    refine E_n ?_
    refine wp_seq ?_
    refine L_region ?_
    refine L_mv ?_
    refine L_mv ?_
    refine L_u (P_eqi h) ?_
    intro v w h
    refine L_mv ?_
    refine L_g (t := 40) h rfl rfl (fun c h => P_mv h c) ?_
    intro v w h
    refine L_g (t := 40) h rfl rfl (fun c h => P_mv h c) ?_
    intro v w h
    refine L_g (t := 40) h rfl rfl (fun c h => N_cl Try.func13 rfl nn13 (fun w Q h => s13 _ _ w Q h) h c) ?_
    intro v w h
    refine L_u (P_pk h) ?_
    intro v w h
    refine L_mv ?_
    refine L_g (t := 45) h rfl rfl (fun c h => P_mv h c) ?_
    intro v w h
    refine L_g (t := 45) h rfl rfl (fun c h => N_cl Try.func14 rfl nn14 (fun w Q h => s14 _ w Q h) h c) ?_
    intro v w h
    refine L_g (t := 45) h rfl rfl (fun c h => P_mv h c) ?_
    intro v w h
    refine L_g (t := 45) h rfl rfl (fun c h => N_cl Try.func15 rfl nn15 (fun w Q h => s15 _ w Q h) h c) ?_
    intro v w h
    refine L_g (t := 45) h rfl rfl (fun c h => N_cl Try.func13 rfl nn13 (fun w Q h => s13 _ _ w Q h) h c) ?_
    intro v w h
    refine L_u (P_pk h) ?_
    intro v w h
    refine L_mv ?_
    refine L_g (t := 52) h rfl rfl (fun c h => P_mv h c) ?_
    intro v w h
    refine L_g (t := 52) h rfl rfl (fun c h => P_mv h c) ?_
    intro v w h
    refine L_g (t := 52) h rfl rfl (fun c h => N_cl Try.func16 rfl nn16 (fun w Q h => s16 _ _ w Q h) h c) ?_
    intro v w h
    refine L_g (t := 52) h rfl rfl (fun c h => P_mv h c) ?_
    intro v w h
    refine L_g (t := 52) h rfl rfl (fun c h => P_mv h c) ?_
    intro v w h
    refine L_g (t := 52) h rfl rfl (fun c h => N_cl Try.func17 rfl nn17 (fun w Q h => s17 _ _ w Q h) h c) ?_
    intro v w h
    refine L_g (t := 52) h rfl rfl (fun c h => N_cl Try.func13 rfl nn13 (fun w Q h => s13 _ _ w Q h) h c) ?_
    intro v w h
    refine L_u (P_pk h) ?_
    intro v w h
    refine L_as ?_
    refine L_nil ?_
    refine E_n ?_
    refine C_ret ?_
    show bodyPost Try.prog Try.f4 (Rt Q) .ret _ _
    exact post_tmps (ts := [6]) (.inr rfl) rfl h

/- slices.CompareFunc[[]factotum/api.Value,[]factotum/api.Value,factotum/api.Value,factotum/api.Value] -/
def f36_b2 (j1 : Value → Value → M) (self2 : Value → Value → Value → Value → Value → Value → M) (t0_1 t1_1 t2_1 t11 t12_1 t13 : Value) : M :=
  lt .i64 t13 t12_1 fun t14 =>
  cnd t14 (
    ia 3 t11 t13 fun t16 =>
    ldn 3 t16 fun t17 =>
    al 31 #[(.int .i64 0), (.int .i64 0), (.string ⟨#[]⟩)] fun t8 =>
    stn 3 t8 t17 <|
    lnl t1_1 fun t20 =>
    ge .i64 t13 t20 fun t21 =>
    cnd t21 (
      rt (.int .i64 1)
      ) (
      ia 3 t1_1 t13 fun t24 =>
      ldn 3 t24 fun t25 =>
      al 31 #[(.int .i64 0), (.int .i64 0), (.string ⟨#[]⟩)] fun t9 =>
      stn 3 t9 t25 <|
      ldn 3 t8 fun t27 =>
      ldn 3 t9 fun t28 =>
      cf Try.prog t2_1 #[t27, t28] fun t29 =>
      nei .i64 t29 (.int .i64 0) fun t31 =>
      cnd t31 (
        rt t29
        ) (
        ad .i64 t13 (.int .i64 1) fun t33 =>
        self2 t0_1 t1_1 t2_1 t11 t12_1 t33
        )
      )
    ) (
    j1 t0_1 t1_1
    )
def f36_j1 (t0_2 t1_2 : Value) : M :=
  lnl t0_2 fun t35 =>
  lnl t1_2 fun t37 =>
  lt .i64 t35 t37 fun t38 =>
  cnd t38 (
    rt (.int .i64 (-1))
    ) (
    rt (.int .i64 0)
    )
def f36 (t0 t1 t2 : Value) : M :=
  lnl t0 fun t12 =>
  jn (fun (j1 : Value → Value → M) =>
    lo (fun _ _ _ _ _ _ => bot) (f36_b2 j1) (fun l => l t0 t1 t2 t0 t12 (.int .i64 0))
    ) (f36_j1)
theorem s36 (t0 t1 t2 : Value) (w : World) (Q : Value → World → Prop) (h : f36 t0 t1 t2 w Q) : Calls Try.prog 36 #[t0, t1, t2] w (Rt Q) := by
  refine calls_of (l := [t0, t1, t2]) Try.func36 rfl Try.ntmps36 (Nat.le_of_ble_eq_true rfl) ?_
  unfold f36 at h
  refine wp_seq ?_
  refine L_region ?_
  refine L_as ?_
  refine L_nil ?_
  refine E_n ?_
  refine wp_seq ?_
  refine wp_seq ?_
  refine L_region ?_
  refine L_mv ?_
  refine L_u (P_lnl is32 h) ?_
  intro v w h
  refine L_mv ?_
  refine L_nil ?_
  refine E_n ?_
  refine C_join (fun (k : Value → Value → M) (ρ : Nat → Value) => k (ρ 0) (ρ 1)) h (fun j1 J1 h => ?_) (fun ρ w h => ?_)
  · refine C_blk ?_
    refine C_lo (fun (l : Value → Value → Value → Value → Value → Value → M) (ρ : Nat → Value) => l (ρ 0) (ρ 1) (ρ 2) (ρ 11) (ρ 12) (ρ 13)) h (fun ρ w h => h) (fun nx self2 L2 ρ w h => ?_)
    unfold f36_b2 at h
    refine wp_seq ?_
    refine L_region ?_
    refine L_u (P_lt h) ?_
    intro v w h
    refine L_nil ?_
    refine E_n ?_
    refine wp_seq ?_
    refine C_cnd h (fun h => ?_) (fun h => ?_)
    · refine C_skip ?_
      refine E_n ?_
      refine wp_seq ?_
      refine C_blk ?_
      refine wp_seq ?_
      refine L_region ?_
      refine L_mv ?_
      refine L_u (P_ia se32 h) ?_
      intro v w h
      refine L_u (P_ldn ag31 h) ?_
      intro v w h
      refine L_u (P_al ze31 rfl h) ?_
      intro v w h
      refine L_as ?_
      refine L_u (P_stn ag31 h) ?_
      intro w h
      refine L_nil ?_
      refine E_n ?_
      refine wp_seq ?_
      refine wp_seq ?_
      refine L_region ?_
      refine L_mv ?_
      refine L_mv ?_
      refine L_u (P_lnl is32 h) ?_
      intro v w h
      refine L_u (P_ge h) ?_
      intro v w h
      refine L_nil ?_
      refine E_n ?_
      refine C_cnd h (fun h => ?_) (fun h => ?_)
      · refine wp_seq ?_
        refine L_region ?_
        refine L_as ?_
        refine L_nil ?_
        refine E_n ?_
        refine C_ret ?_
        show bodyPost Try.prog Try.f36 (Rt Q) .ret _ _
        exact post_tmps (ts := [6]) (.inr rfl) rfl h
      · refine C_skip ?_
        refine E_n ?_
        refine wp_seq ?_
        refine L_region ?_
        refine L_mv ?_
        refine L_mv ?_
        refine L_u (P_ia se32 h) ?_
        intro v w h
        refine L_u (P_ldn ag31 h) ?_
        intro v w h
        refine L_u (P_al ze31 rfl h) ?_
        intro v w h
        refine L_u (P_stn ag31 h) ?_
        intro w h
        refine L_nil ?_
        refine E_n ?_
        refine wp_seq ?_
        refine L_region ?_
        refine L_mv ?_
        refine L_u (P_ldn ag31 h) ?_
        intro v w h
        refine L_u (P_ldn ag31 h) ?_
        intro v w h
        refine L_u (N_cf h) ?_
        intro v w h
        refine L_as ?_
        refine L_nil ?_
        refine E_n ?_
        refine wp_seq ?_
        refine L_region ?_
        refine L_mv ?_
        refine L_u (P_nei h) ?_
        intro v w h
        refine L_nil ?_
        refine E_n ?_
        refine C_cnd h (fun h => ?_) (fun h => ?_)
        · refine wp_seq ?_
          refine L_region ?_
          refine L_mv ?_
          refine L_as ?_
          refine L_nil ?_
          refine E_n ?_
          refine C_ret ?_
          show bodyPost Try.prog Try.f36 (Rt Q) .ret _ _
          exact post_tmps (ts := [6]) (.inr rfl) rfl h
        · refine C_skip ?_
          refine B_n ?_
          refine E_n ?_
          refine L_region ?_
          refine L_u (P_ad h) ?_
          intro v w h
          refine L_mv ?_
          refine L_nil ?_
          refine E_n ?_
          exact L2 _ _ h
    · refine C_exit ?_
      refine E_x ?_
      refine E_x ?_
      refine B_x ?_
      exact J1 _ _ h
  · unfold f36_j1 at h
    refine E_n ?_
    refine wp_seq ?_
    refine wp_seq ?_
    refine L_region ?_
    refine L_mv ?_
    refine L_u (P_lnl is32 h) ?_
    intro v w h
    refine L_mv ?_
    refine L_u (P_lnl is32 h) ?_
    intro v w h
    refine L_u (P_lt h) ?_
    intro v w h
    refine L_nil ?_
    refine E_n ?_
    refine C_cnd h (fun h => ?_) (fun h => ?_)
    · refine wp_seq ?_
      refine L_region ?_
      refine L_as ?_
      refine L_nil ?_
      refine E_n ?_
      refine C_ret ?_
      show bodyPost Try.prog Try.f36 (Rt Q) .ret _ _
      exact post_tmps (ts := [6]) (.inr rfl) rfl h
    · refine C_skip ?_
      refine E_n ?_
      refine wp_seq ?_
      refine L_region ?_
      refine L_as ?_
      refine L_nil ?_
      refine E_n ?_
      refine C_ret ?_
      show bodyPost Try.prog Try.f36 (Rt Q) .ret _ _
      exact post_tmps (ts := [6]) (.inr rfl) rfl h

/- cmp.Or[int] -/
def f48_b2 (j1 : Value → M) (self2 : Value → Value → Value → Value → M) (t3 t6 t7_1 t8 : Value) : M :=
  lt .i64 t8 t7_1 fun t9 =>
  cnd t9 (
    ia 1 t6 t8 fun t10 =>
    ld t10 fun t11 =>
    nei .i64 t11 t3 fun t14 =>
    cnd t14 (
      rt t11
      ) (
      ad .i64 t8 (.int .i64 1) fun t16 =>
      self2 t3 t6 t7_1 t16
      )
    ) (
    j1 t3
    )
def f48_j1 (t3_1 : Value) : M :=
  rt t3_1
def f48 (t0 : Value) : M :=
  lnl t0 fun t7 =>
  jn (fun (j1 : Value → M) =>
    lo (fun _ _ _ _ => bot) (f48_b2 j1) (fun l => l (.int .i64 0) t0 t7 (.int .i64 0))
    ) (f48_j1)
theorem s48 (t0 : Value) (w : World) (Q : Value → World → Prop) (h : f48 t0 w Q) : Calls Try.prog 48 #[t0] w (Rt Q) := by
  refine calls_of (l := [t0]) Try.func48 rfl Try.ntmps48 (Nat.le_of_ble_eq_true rfl) ?_
  unfold f48 at h
  refine wp_seq ?_
  refine L_region ?_
  refine L_as ?_
  refine L_nil ?_
  refine E_n ?_
  refine wp_seq ?_
  refine L_region ?_
  refine L_as ?_
  refine L_nil ?_
  refine E_n ?_
  refine wp_seq ?_
  refine wp_seq ?_
  refine L_region ?_
  refine L_mv ?_
  refine L_u (P_lnl is43 h) ?_
  intro v w h
  refine L_mv ?_
  refine L_nil ?_
  refine E_n ?_
  refine C_join (fun (k : Value → M) (ρ : Nat → Value) => k (ρ 3)) h (fun j1 J1 h => ?_) (fun ρ w h => ?_)
  · refine C_blk ?_
    refine C_lo (fun (l : Value → Value → Value → Value → M) (ρ : Nat → Value) => l (ρ 3) (ρ 6) (ρ 7) (ρ 8)) h (fun ρ w h => h) (fun nx self2 L2 ρ w h => ?_)
    unfold f48_b2 at h
    refine wp_seq ?_
    refine L_region ?_
    refine L_u (P_lt h) ?_
    intro v w h
    refine L_nil ?_
    refine E_n ?_
    refine wp_seq ?_
    refine C_cnd h (fun h => ?_) (fun h => ?_)
    · refine C_skip ?_
      refine E_n ?_
      refine wp_seq ?_
      refine C_blk ?_
      refine wp_seq ?_
      refine L_region ?_
      refine L_u (P_ia se43 h) ?_
      intro v w h
      refine L_u (P_ld sc3 h) ?_
      intro v w h
      refine L_as ?_
      refine L_nil ?_
      refine E_n ?_
      refine wp_seq ?_
      refine L_region ?_
      refine L_mv ?_
      refine L_mv ?_
      refine L_u (P_nei h) ?_
      intro v w h
      refine L_nil ?_
      refine E_n ?_
      refine C_cnd h (fun h => ?_) (fun h => ?_)
      · refine wp_seq ?_
        refine L_region ?_
        refine L_mv ?_
        refine L_as ?_
        refine L_nil ?_
        refine E_n ?_
        refine C_ret ?_
        show bodyPost Try.prog Try.f48 (Rt Q) .ret _ _
        exact post_tmps (ts := [2]) (.inr rfl) rfl h
      · refine C_skip ?_
        refine B_n ?_
        refine E_n ?_
        refine L_region ?_
        refine L_u (P_ad h) ?_
        intro v w h
        refine L_mv ?_
        refine L_nil ?_
        refine E_n ?_
        exact L2 _ _ h
    · refine C_exit ?_
      refine E_x ?_
      refine E_x ?_
      refine B_x ?_
      exact J1 _ _ h
  · unfold f48_j1 at h
    refine E_n ?_
    refine wp_seq ?_
    refine L_region ?_
    refine L_mv ?_
    refine L_as ?_
    refine L_nil ?_
    refine E_n ?_
    refine C_ret ?_
    show bodyPost Try.prog Try.f48 (Rt Q) .ret _ _
    exact post_tmps (ts := [2]) (.inr rfl) rfl h

/- cmp.isNaN[factotum/api.Kind] -/
def f55 (t0 : Value) : M :=
  nei .i64 t0 t0 fun t5 =>
  rt t5
theorem s55 (t0 : Value) (w : World) (Q : Value → World → Prop) (h : f55 t0 w Q) : Calls Try.prog 55 #[t0] w (Rt Q) := by
  refine calls_of (l := [t0]) Try.func55 rfl Try.ntmps55 (Nat.le_of_ble_eq_true rfl) ?_
  unfold f55 at h
  refine wp_seq ?_
  refine L_region ?_
  refine L_as ?_
  refine L_nil ?_
  refine E_n ?_
  refine wp_seq ?_
  refine L_region ?_
  refine L_mv ?_
  refine L_mv ?_
  refine L_u (P_nei h) ?_
  intro v w h
  refine L_as ?_
  refine L_nil ?_
  refine E_n ?_
  refine C_ret ?_
  show bodyPost Try.prog Try.f55 (Rt Q) .ret _ _
  exact post_tmps (ts := [2]) (.inr rfl) rfl h

/- cmp.Compare[factotum/api.Kind] -/
def f49 (t0 t1 : Value) : M :=
  cl (f55 t0) fun t8 =>
  cl (f55 t1) fun t10 =>
  cnd t8 (
    cnd t10 (
      rt (.int .i64 0)
      ) (
      rt (.int .i64 (-1))
      )
    ) (
    cnd t10 (
      rt (.int .i64 1)
      ) (
      lt .i64 t0 t1 fun t16 =>
      cnd t16 (
        rt (.int .i64 (-1))
        ) (
        gt .i64 t0 t1 fun t19 =>
        cnd t19 (
          rt (.int .i64 1)
          ) (
          rt (.int .i64 0)
          )
        )
      )
    )
theorem s49 (t0 t1 : Value) (w : World) (Q : Value → World → Prop) (h : f49 t0 t1 w Q) : Calls Try.prog 49 #[t0, t1] w (Rt Q) := by
  refine calls_of (l := [t0, t1]) Try.func49 rfl Try.ntmps49 (Nat.le_of_ble_eq_true rfl) ?_
  unfold f49 at h
  refine wp_seq ?_
  refine L_region ?_
  refine L_as ?_
  refine L_nil ?_
  refine E_n ?_
  refine wp_seq ?_
  refine L_region ?_
  refine L_mv ?_
  refine L_u (N_cl Try.func55 rfl nn55 (fun w Q h => s55 _ w Q h) h) ?_
  intro v w h
  refine L_as ?_
  refine L_nil ?_
  refine E_n ?_
  refine wp_seq ?_
  refine L_region ?_
  refine L_mv ?_
  refine L_u (N_cl Try.func55 rfl nn55 (fun w Q h => s55 _ w Q h) h) ?_
  intro v w h
  refine L_as ?_
  refine L_nil ?_
  refine E_n ?_
  refine wp_seq ?_
  refine wp_seq ?_
  refine L_region ?_
  refine L_mv ?_
  refine L_nil ?_
  refine E_n ?_
  refine C_cnd h (fun h => ?_) (fun h => ?_)
  · refine wp_seq ?_
    refine wp_seq ?_
    refine L_region ?_
    refine L_mv ?_
    refine L_nil ?_
    refine E_n ?_
    refine C_cnd h (fun h => ?_) (fun h => ?_)
    · refine wp_seq ?_
      refine L_region ?_
      refine L_as ?_
      refine L_nil ?_
      refine E_n ?_
      refine C_ret ?_
      show bodyPost Try.prog Try.f49 (Rt Q) .ret _ _
      exact post_tmps (ts := [4]) (.inr rfl) rfl h
    · refine C_skip ?_
      refine E_n ?_
      refine wp_seq ?_
      refine L_region ?_
      refine L_as ?_
      refine L_nil ?_
      refine E_n ?_
      refine C_ret ?_
      show bodyPost Try.prog Try.f49 (Rt Q) .ret _ _
      exact post_tmps (ts := [4]) (.inr rfl) rfl h
  · refine C_skip ?_
    refine E_n ?_
    refine wp_seq ?_
    refine wp_seq ?_
    refine L_region ?_
    refine L_mv ?_
    refine L_nil ?_
    refine E_n ?_
    refine C_cnd h (fun h => ?_) (fun h => ?_)
    · refine wp_seq ?_
      refine L_region ?_
      refine L_as ?_
      refine L_nil ?_
      refine E_n ?_
      refine C_ret ?_
      show bodyPost Try.prog Try.f49 (Rt Q) .ret _ _
      exact post_tmps (ts := [4]) (.inr rfl) rfl h
    · refine C_skip ?_
      refine E_n ?_
      refine wp_seq ?_
      refine wp_seq ?_
      refine L_region ?_
      refine L_mv ?_
      refine L_mv ?_
      refine L_u (P_lt h) ?_
      intro v w h
      refine L_nil ?_
      refine E_n ?_
      refine C_cnd h (fun h => ?_) (fun h => ?_)
      · refine wp_seq ?_
        refine L_region ?_
        refine L_as ?_
        refine L_nil ?_
        refine E_n ?_
        refine C_ret ?_
        show bodyPost Try.prog Try.f49 (Rt Q) .ret _ _
        exact post_tmps (ts := [4]) (.inr rfl) rfl h
      · refine C_skip ?_
        refine E_n ?_
        refine wp_seq ?_
        refine wp_seq ?_
        refine L_region ?_
        refine L_mv ?_
        refine L_mv ?_
        refine L_u (P_gt h) ?_
        intro v w h
        refine L_nil ?_
        refine E_n ?_
        refine C_cnd h (fun h => ?_) (fun h => ?_)
        · refine wp_seq ?_
          refine L_region ?_
          refine L_as ?_
          refine L_nil ?_
          refine E_n ?_
          refine C_ret ?_
          show bodyPost Try.prog Try.f49 (Rt Q) .ret _ _
          exact post_tmps (ts := [4]) (.inr rfl) rfl h
        · refine C_skip ?_
          refine E_n ?_
          refine wp_seq ?_
          refine L_region ?_
          refine L_as ?_
          refine L_nil ?_
          refine E_n ?_
          refine C_ret ?_
          show bodyPost Try.prog Try.f49 (Rt Q) .ret _ _
          exact post_tmps (ts := [4]) (.inr rfl) rfl h

/- cmp.isNaN[int64] -/
def f56 (t0 : Value) : M :=
  nei .i64 t0 t0 fun t5 =>
  rt t5
theorem s56 (t0 : Value) (w : World) (Q : Value → World → Prop) (h : f56 t0 w Q) : Calls Try.prog 56 #[t0] w (Rt Q) := by
  refine calls_of (l := [t0]) Try.func56 rfl Try.ntmps56 (Nat.le_of_ble_eq_true rfl) ?_
  unfold f56 at h
  refine wp_seq ?_
  refine L_region ?_
  refine L_as ?_
  refine L_nil ?_
  refine E_n ?_
  refine wp_seq ?_
  refine L_region ?_
  refine L_mv ?_
  refine L_mv ?_
  refine L_u (P_nei h) ?_
  intro v w h
  refine L_as ?_
  refine L_nil ?_
  refine E_n ?_
  refine C_ret ?_
  show bodyPost Try.prog Try.f56 (Rt Q) .ret _ _
  exact post_tmps (ts := [2]) (.inr rfl) rfl h

/- cmp.Compare[int64] -/
def f50 (t0 t1 : Value) : M :=
  cl (f56 t0) fun t8 =>
  cl (f56 t1) fun t10 =>
  cnd t8 (
    cnd t10 (
      rt (.int .i64 0)
      ) (
      rt (.int .i64 (-1))
      )
    ) (
    cnd t10 (
      rt (.int .i64 1)
      ) (
      lt .i64 t0 t1 fun t16 =>
      cnd t16 (
        rt (.int .i64 (-1))
        ) (
        gt .i64 t0 t1 fun t19 =>
        cnd t19 (
          rt (.int .i64 1)
          ) (
          rt (.int .i64 0)
          )
        )
      )
    )
theorem s50 (t0 t1 : Value) (w : World) (Q : Value → World → Prop) (h : f50 t0 t1 w Q) : Calls Try.prog 50 #[t0, t1] w (Rt Q) := by
  refine calls_of (l := [t0, t1]) Try.func50 rfl Try.ntmps50 (Nat.le_of_ble_eq_true rfl) ?_
  unfold f50 at h
  refine wp_seq ?_
  refine L_region ?_
  refine L_as ?_
  refine L_nil ?_
  refine E_n ?_
  refine wp_seq ?_
  refine L_region ?_
  refine L_mv ?_
  refine L_u (N_cl Try.func56 rfl nn56 (fun w Q h => s56 _ w Q h) h) ?_
  intro v w h
  refine L_as ?_
  refine L_nil ?_
  refine E_n ?_
  refine wp_seq ?_
  refine L_region ?_
  refine L_mv ?_
  refine L_u (N_cl Try.func56 rfl nn56 (fun w Q h => s56 _ w Q h) h) ?_
  intro v w h
  refine L_as ?_
  refine L_nil ?_
  refine E_n ?_
  refine wp_seq ?_
  refine wp_seq ?_
  refine L_region ?_
  refine L_mv ?_
  refine L_nil ?_
  refine E_n ?_
  refine C_cnd h (fun h => ?_) (fun h => ?_)
  · refine wp_seq ?_
    refine wp_seq ?_
    refine L_region ?_
    refine L_mv ?_
    refine L_nil ?_
    refine E_n ?_
    refine C_cnd h (fun h => ?_) (fun h => ?_)
    · refine wp_seq ?_
      refine L_region ?_
      refine L_as ?_
      refine L_nil ?_
      refine E_n ?_
      refine C_ret ?_
      show bodyPost Try.prog Try.f50 (Rt Q) .ret _ _
      exact post_tmps (ts := [4]) (.inr rfl) rfl h
    · refine C_skip ?_
      refine E_n ?_
      refine wp_seq ?_
      refine L_region ?_
      refine L_as ?_
      refine L_nil ?_
      refine E_n ?_
      refine C_ret ?_
      show bodyPost Try.prog Try.f50 (Rt Q) .ret _ _
      exact post_tmps (ts := [4]) (.inr rfl) rfl h
  · refine C_skip ?_
    refine E_n ?_
    refine wp_seq ?_
    refine wp_seq ?_
    refine L_region ?_
    refine L_mv ?_
    refine L_nil ?_
    refine E_n ?_
    refine C_cnd h (fun h => ?_) (fun h => ?_)
    · refine wp_seq ?_
      refine L_region ?_
      refine L_as ?_
      refine L_nil ?_
      refine E_n ?_
      refine C_ret ?_
      show bodyPost Try.prog Try.f50 (Rt Q) .ret _ _
      exact post_tmps (ts := [4]) (.inr rfl) rfl h
    · refine C_skip ?_
      refine E_n ?_
      refine wp_seq ?_
      refine wp_seq ?_
      refine L_region ?_
      refine L_mv ?_
      refine L_mv ?_
      refine L_u (P_lt h) ?_
      intro v w h
      refine L_nil ?_
      refine E_n ?_
      refine C_cnd h (fun h => ?_) (fun h => ?_)
      · refine wp_seq ?_
        refine L_region ?_
        refine L_as ?_
        refine L_nil ?_
        refine E_n ?_
        refine C_ret ?_
        show bodyPost Try.prog Try.f50 (Rt Q) .ret _ _
        exact post_tmps (ts := [4]) (.inr rfl) rfl h
      · refine C_skip ?_
        refine E_n ?_
        refine wp_seq ?_
        refine wp_seq ?_
        refine L_region ?_
        refine L_mv ?_
        refine L_mv ?_
        refine L_u (P_gt h) ?_
        intro v w h
        refine L_nil ?_
        refine E_n ?_
        refine C_cnd h (fun h => ?_) (fun h => ?_)
        · refine wp_seq ?_
          refine L_region ?_
          refine L_as ?_
          refine L_nil ?_
          refine E_n ?_
          refine C_ret ?_
          show bodyPost Try.prog Try.f50 (Rt Q) .ret _ _
          exact post_tmps (ts := [4]) (.inr rfl) rfl h
        · refine C_skip ?_
          refine E_n ?_
          refine wp_seq ?_
          refine L_region ?_
          refine L_as ?_
          refine L_nil ?_
          refine E_n ?_
          refine C_ret ?_
          show bodyPost Try.prog Try.f50 (Rt Q) .ret _ _
          exact post_tmps (ts := [4]) (.inr rfl) rfl h

/- cmp.isNaN[string] -/
def f57 (t0 : Value) : M :=
  nes t0 t0 fun t5 =>
  rt t5
theorem s57 (t0 : Value) (w : World) (Q : Value → World → Prop) (h : f57 t0 w Q) : Calls Try.prog 57 #[t0] w (Rt Q) := by
  refine calls_of (l := [t0]) Try.func57 rfl Try.ntmps57 (Nat.le_of_ble_eq_true rfl) ?_
  unfold f57 at h
  refine wp_seq ?_
  refine L_region ?_
  refine L_as ?_
  refine L_nil ?_
  refine E_n ?_
  refine wp_seq ?_
  refine L_region ?_
  refine L_mv ?_
  refine L_mv ?_
  refine L_u (P_nes h) ?_
  intro v w h
  refine L_as ?_
  refine L_nil ?_
  refine E_n ?_
  refine C_ret ?_
  show bodyPost Try.prog Try.f57 (Rt Q) .ret _ _
  exact post_tmps (ts := [2]) (.inr rfl) rfl h

/- cmp.Compare[string] -/
def f51 (t0 t1 : Value) : M :=
  cl (f57 t0) fun t8 =>
  cl (f57 t1) fun t10 =>
  cnd t8 (
    cnd t10 (
      rt (.int .i64 0)
      ) (
      rt (.int .i64 (-1))
      )
    ) (
    cnd t10 (
      rt (.int .i64 1)
      ) (
      lts t0 t1 fun t16 =>
      cnd t16 (
        rt (.int .i64 (-1))
        ) (
        gts t0 t1 fun t19 =>
        cnd t19 (
          rt (.int .i64 1)
          ) (
          rt (.int .i64 0)
          )
        )
      )
    )
theorem s51 (t0 t1 : Value) (w : World) (Q : Value → World → Prop) (h : f51 t0 t1 w Q) : Calls Try.prog 51 #[t0, t1] w (Rt Q) := by
  refine calls_of (l := [t0, t1]) Try.func51 rfl Try.ntmps51 (Nat.le_of_ble_eq_true rfl) ?_
  unfold f51 at h
  refine wp_seq ?_
  refine L_region ?_
  refine L_as ?_
  refine L_nil ?_
  refine E_n ?_
  refine wp_seq ?_
  refine L_region ?_
  refine L_mv ?_
  refine L_u (N_cl Try.func57 rfl nn57 (fun w Q h => s57 _ w Q h) h) ?_
  intro v w h
  refine L_as ?_
  refine L_nil ?_
  refine E_n ?_
  refine wp_seq ?_
  refine L_region ?_
  refine L_mv ?_
  refine L_u (N_cl Try.func57 rfl nn57 (fun w Q h => s57 _ w Q h) h) ?_
  intro v w h
  refine L_as ?_
  refine L_nil ?_
  refine E_n ?_
  refine wp_seq ?_
  refine wp_seq ?_
  refine L_region ?_
  refine L_mv ?_
  refine L_nil ?_
  refine E_n ?_
  refine C_cnd h (fun h => ?_) (fun h => ?_)
  · refine wp_seq ?_
    refine wp_seq ?_
    refine L_region ?_
    refine L_mv ?_
    refine L_nil ?_
    refine E_n ?_
    refine C_cnd h (fun h => ?_) (fun h => ?_)
    · refine wp_seq ?_
      refine L_region ?_
      refine L_as ?_
      refine L_nil ?_
      refine E_n ?_
      refine C_ret ?_
      show bodyPost Try.prog Try.f51 (Rt Q) .ret _ _
      exact post_tmps (ts := [4]) (.inr rfl) rfl h
    · refine C_skip ?_
      refine E_n ?_
      refine wp_seq ?_
      refine L_region ?_
      refine L_as ?_
      refine L_nil ?_
      refine E_n ?_
      refine C_ret ?_
      show bodyPost Try.prog Try.f51 (Rt Q) .ret _ _
      exact post_tmps (ts := [4]) (.inr rfl) rfl h
  · refine C_skip ?_
    refine E_n ?_
    refine wp_seq ?_
    refine wp_seq ?_
    refine L_region ?_
    refine L_mv ?_
    refine L_nil ?_
    refine E_n ?_
    refine C_cnd h (fun h => ?_) (fun h => ?_)
    · refine wp_seq ?_
      refine L_region ?_
      refine L_as ?_
      refine L_nil ?_
      refine E_n ?_
      refine C_ret ?_
      show bodyPost Try.prog Try.f51 (Rt Q) .ret _ _
      exact post_tmps (ts := [4]) (.inr rfl) rfl h
    · refine C_skip ?_
      refine E_n ?_
      refine wp_seq ?_
      refine wp_seq ?_
      refine L_region ?_
      refine L_mv ?_
      refine L_mv ?_
      refine L_u (P_lts h) ?_
      intro v w h
      refine L_nil ?_
      refine E_n ?_
      refine C_cnd h (fun h => ?_) (fun h => ?_)
      · refine wp_seq ?_
        refine L_region ?_
        refine L_as ?_
        refine L_nil ?_
        refine E_n ?_
        refine C_ret ?_
        show bodyPost Try.prog Try.f51 (Rt Q) .ret _ _
        exact post_tmps (ts := [4]) (.inr rfl) rfl h
      · refine C_skip ?_
        refine E_n ?_
        refine wp_seq ?_
        refine wp_seq ?_
        refine L_region ?_
        refine L_mv ?_
        refine L_mv ?_
        refine L_u (P_gts h) ?_
        intro v w h
        refine L_nil ?_
        refine E_n ?_
        refine C_cnd h (fun h => ?_) (fun h => ?_)
        · refine wp_seq ?_
          refine L_region ?_
          refine L_as ?_
          refine L_nil ?_
          refine E_n ?_
          refine C_ret ?_
          show bodyPost Try.prog Try.f51 (Rt Q) .ret _ _
          exact post_tmps (ts := [4]) (.inr rfl) rfl h
        · refine C_skip ?_
          refine E_n ?_
          refine wp_seq ?_
          refine L_region ?_
          refine L_as ?_
          refine L_nil ?_
          refine E_n ?_
          refine C_ret ?_
          show bodyPost Try.prog Try.f51 (Rt Q) .ret _ _
          exact post_tmps (ts := [4]) (.inr rfl) rfl h

/- factotum/keys.one -/
def f37 (t0 t1 : Value) : M :=
  bx 31 t0 fun t2 =>
  bx 31 t1 fun t3 =>
  dr <|
  fa 0 t2 fun t5 =>
  ld t5 fun t6 =>
  fa 0 t3 fun t7 =>
  ld t7 fun t8 =>
  fa 1 t2 fun t10 =>
  ld t10 fun t11 =>
  fa 1 t3 fun t12 =>
  ld t12 fun t13 =>
  fa 2 t2 fun t15 =>
  ld t15 fun t16 =>
  fa 2 t3 fun t17 =>
  ld t17 fun t18 =>
  cl (f49 t6 t8) fun t9 =>
  kp (Kld t17 t18) <|
  kp (Kld t15 t16) <|
  kp (Kld t12 t13) <|
  kp (Kld t10 t11) <|
  cl (f50 t11 t13) fun t14 =>
  kp (Kld t17 t18) <|
  kp (Kld t15 t16) <|
  cl (f51 t16 t18) fun t19 =>
  sm Try.prog (Instr.buildSlice 43 3 #[(0, t9), (1, t14), (2, t19)]) fun t20 =>
  cl (f48 t20) fun t21 =>
  idv t21 fun t4 =>
  rt t4
theorem s37 (t0 t1 : Value) (w : World) (Q : Value → World → Prop) (h : f37 t0 t1 w Q) : Calls Try.prog 37 #[t0, t1] w (Rt Q) := by
  refine calls_of (l := [t0, t1]) Try.func37 rfl Try.ntmps37 (Nat.le_of_ble_eq_true rfl) ?_
  unfold f37 at h
  refine wp_seq ?_
  refine L_region ?_
  refine L_u (P_bx h) ?_
  intro v w h
  refine L_u (P_bx h) ?_
  intro v w h
  refine L_as ?_
  refine L_nil ?_
  refine E_n ?_
  refine wp_seq ?_
  refine D_region (by decide +kernel) 18 rfl ?_
  replace h := dr_e h
  refine G_p 0 rfl (by decide +kernel) (Y_fa fo31_0 h) ?_
  intro v h
  refine G_r _ 1 rfl (by decide +kernel) (R_ld sc29 h) ?_
  intro v h
  refine G_p 2 rfl (by decide +kernel) (Y_fa fo31_0 h) ?_
  intro v h
  refine G_r _ 3 rfl (by decide +kernel) (R_ld sc29 h) ?_
  intro v h
  refine G_p 5 rfl (by decide +kernel) (Y_fa fo31_1 h) ?_
  intro v h
  refine G_r _ 6 rfl (by decide +kernel) (R_ld sc2 h) ?_
  intro v h
  refine G_p 7 rfl (by decide +kernel) (Y_fa fo31_1 h) ?_
  intro v h
  refine G_r _ 8 rfl (by decide +kernel) (R_ld sc2 h) ?_
  intro v h
  refine G_p 10 rfl (by decide +kernel) (Y_fa fo31_2 h) ?_
  intro v h
  refine G_r _ 11 rfl (by decide +kernel) (R_ld sc9 h) ?_
  intro v h
  refine G_p 12 rfl (by decide +kernel) (Y_fa fo31_2 h) ?_
  intro v h
  refine G_r _ 13 rfl (by decide +kernel) (R_ld sc9 h) ?_
  intro v h
  refine G_e 4 rfl (by decide +kernel) (N_cl Try.func49 rfl nn49 (fun w Q h => s49 _ _ w Q h) h ?_)
  intro v w h
  refine ⟨keepF_cons (kp_1 h) (keepF_cons (kp_1 (kp_2 h)) (keepF_cons (kp_1 (kp_2 (kp_2 h))) (keepF_cons (kp_1 (kp_2 (kp_2 (kp_2 h)))) (keepF_dep [3] (by decide +kernel) rfl (keepF_dep [1] (by decide +kernel) rfl keepF_nil))))), ?_⟩
  replace h := (kp_2 (kp_2 (kp_2 (kp_2 h))))
  refine G_e 9 rfl (by decide +kernel) (N_cl Try.func50 rfl nn50 (fun w Q h => s50 _ _ w Q h) h ?_)
  intro v w h
  refine ⟨keepF_cons (kp_1 h) (keepF_cons (kp_1 (kp_2 h)) (keepF_dep [8] (by decide +kernel) rfl (keepF_dep [6] (by decide +kernel) rfl (keepF_dep [4, 3] (by decide +kernel) rfl (keepF_dep [4, 1] (by decide +kernel) rfl keepF_nil))))), ?_⟩
  replace h := (kp_2 (kp_2 h))
  refine G_e 14 rfl (by decide +kernel) (N_cl Try.func51 rfl nn51 (fun w Q h => s51 _ _ w Q h) h ?_)
  intro v w h
  refine ⟨keepF_dep [13] (by decide +kernel) rfl (keepF_dep [11] (by decide +kernel) rfl (keepF_dep [9, 8] (by decide +kernel) rfl (keepF_dep [9, 6] (by decide +kernel) rfl (keepF_dep [9, 4, 3] (by decide +kernel) rfl (keepF_dep [9, 4, 1] (by decide +kernel) rfl keepF_nil))))), ?_⟩
  refine G_e 15 rfl (by decide +kernel) (N_bsl h ?_)
  intro v w h
  refine ⟨keepF_dep [14, 13] (by decide +kernel) rfl (keepF_dep [14, 11] (by decide +kernel) rfl (keepF_dep [9, 8] (by decide +kernel) rfl (keepF_dep [9, 6] (by decide +kernel) rfl (keepF_dep [4, 3] (by decide +kernel) rfl (keepF_dep [4, 1] (by decide +kernel) rfl keepF_nil))))), ?_⟩
  refine G_e 16 rfl (by decide +kernel) (N_cl Try.func48 rfl nn48 (fun w Q h => s48 _ w Q h) h ?_)
  intro v w h
  refine ⟨keepF_dep [14, 13] (by decide +kernel) rfl (keepF_dep [14, 11] (by decide +kernel) rfl (keepF_dep [15, 9, 8] (by decide +kernel) rfl (keepF_dep [15, 9, 6] (by decide +kernel) rfl (keepF_dep [15, 4, 3] (by decide +kernel) rfl (keepF_dep [15, 4, 1] (by decide +kernel) rfl keepF_nil))))), ?_⟩
  refine G_p 17 rfl (by decide +kernel) (Y_as h) ?_
  intro v h
  refine G_done (by decide +kernel) ?_
  refine E_n ?_
  refine C_ret ?_
  show bodyPost Try.prog Try.f37 (Rt Q) .ret _ _
  exact post_tmps (ts := [4]) (.inr rfl) rfl h

/- factotum/keys.Compare -/
def f19 (t0 t1 : Value) : M :=
  cl (f36 t0 t1 (.func (.func 37) #[] #[])) fun t7 =>
  rt t7
theorem s19 (t0 t1 : Value) (w : World) (Q : Value → World → Prop) (h : f19 t0 t1 w Q) : Calls Try.prog 19 #[t0, t1] w (Rt Q) := by
  refine calls_of (l := [t0, t1]) Try.func19 rfl Try.ntmps19 (Nat.le_of_ble_eq_true rfl) ?_
  unfold f19 at h
  refine wp_seq ?_
  refine L_region ?_
  refine L_as ?_
  refine L_nil ?_
  refine E_n ?_
  refine wp_seq ?_
  refine L_region ?_
  refine L_mv ?_
  refine L_mv ?_
  refine L_u (N_cl Try.func36 rfl nn36 (fun w Q h => s36 _ _ _ w Q h) h) ?_
  intro v w h
  refine L_as ?_
  refine L_nil ?_
  refine E_n ?_
  refine C_ret ?_
  show bodyPost Try.prog Try.f19 (Rt Q) .ret _ _
  exact post_tmps (ts := [4]) (.inr rfl) rfl h

/- factotum/relate.compare -/
def f35 (t0 t1 : Value) : M :=
  bx 31 t0 fun t2 =>
  bx 31 t1 fun t3 =>
  ldn 3 t2 fun t5 =>
  sm Try.prog (Instr.buildSlice 32 1 #[(0, t5)]) fun t6 =>
  ldn 3 t3 fun t7 =>
  sm Try.prog (Instr.buildSlice 32 1 #[(0, t7)]) fun t8 =>
  cl (f19 t6 t8) fun t9 =>
  rt t9
theorem s35 (t0 t1 : Value) (w : World) (Q : Value → World → Prop) (h : f35 t0 t1 w Q) : Calls Try.prog 35 #[t0, t1] w (Rt Q) := by
  refine calls_of (l := [t0, t1]) Try.func35 rfl Try.ntmps35 (Nat.le_of_ble_eq_true rfl) ?_
  unfold f35 at h
  refine wp_seq ?_
  refine L_region ?_
  refine L_u (P_bx h) ?_
  intro v w h
  refine L_u (P_bx h) ?_
  intro v w h
  refine L_as ?_
  refine L_nil ?_
  refine E_n ?_
  refine wp_seq ?_
  refine L_region ?_
  refine L_u (P_ldn ag31 h) ?_
  intro v w h
  refine L_u (N_bsl h) ?_
  intro v w h
  refine L_u (P_ldn ag31 h) ?_
  intro v w h
  refine L_u (N_bsl h) ?_
  intro v w h
  refine L_u (N_cl Try.func19 rfl nn19 (fun w Q h => s19 _ _ w Q h) h) ?_
  intro v w h
  refine L_as ?_
  refine L_nil ?_
  refine E_n ?_
  refine C_ret ?_
  show bodyPost Try.prog Try.f35 (Rt Q) .ret _ _
  exact post_tmps (ts := [4]) (.inr rfl) rfl h

/- factotum/relate.Where$1 -/
def f34 (t0 t1 t2 t3 : Value) : M :=
  dr <|
  ld t1 fun t7 =>
  lnl t7 fun t8 =>
  eqi .i64 t8 (.int .i64 0) fun t9 =>
  idv t9 fun t10 =>
  gd t10 false (idv t0) fun t11 =>
  gd t10 false (ld t2) fun t12 =>
  gd t10 false (ia 3 t11 t12) fun t13 =>
  gd t10 false (ldn 3 t13) fun t14 =>
  gd t10 false (ld t1) fun t15 =>
  gd t10 false (ia 3 t15 (.int .i64 0)) fun t16 =>
  gd t10 false (ldn 3 t16) fun t17 =>
  gd t10 false (cl (f35 t14 t17)) fun t18 =>
  gd t10 false (ge .i64 t18 (.int .i64 0)) fun t19 =>
  pk t10 (.bool true) t19 fun t20 =>
  idv t20 fun t6 =>
  dr <|
  idv t6 fun t21 =>
  idv t21 fun t22 =>
  gd t22 true (ld t3) fun t23 =>
  gd t22 true (lnl t23) fun t24 =>
  gd t22 true (eqi .i64 t24 (.int .i64 0)) fun t25 =>
  gd t22 true (idv t25) fun t26 =>
  gd t26 false (idv t0) fun t27 =>
  gd t26 false (ld t2) fun t28 =>
  gd t26 false (ia 3 t27 t28) fun t29 =>
  gd t26 false (ldn 3 t29) fun t30 =>
  gd t26 false (ld t3) fun t31 =>
  gd t26 false (ia 3 t31 (.int .i64 0)) fun t32 =>
  gd t26 false (ldn 3 t32) fun t33 =>
  gd t26 false (cl (f35 t30 t33)) fun t34 =>
  gd t26 false (lt .i64 t34 (.int .i64 0)) fun t35 =>
  gd t22 true (pk t26 (.bool true) t35) fun t36 =>
  pk t22 t36 (.bool false) fun t37 =>
  idv t37 fun t5 =>
  rt t5
theorem s34 (t0 t1 t2 t3 : Value) (w : World) (Q : Value → World → Prop) (h : f34 t0 t1 t2 t3 w Q) : Calls Try.prog 34 #[t0, t1, t2, t3] w (Rt Q) := by
  refine calls_of (l := [t0, t1, t2, t3]) Try.func34 rfl Try.ntmps34 (Nat.le_of_ble_eq_true rfl) ?_
  unfold f34 at h
  refine wp_seq ?_
  refine L_region ?_
  refine L_as ?_
  refine L_nil ?_
  refine E_n ?_
  refine wp_seq ?_
  refine D_region (by decide +kernel) 15 rfl ?_
  replace h := dr_e h
  refine G_r _ 0 rfl (by decide +kernel) (R_ld sc32 h) ?_
  intro v h
  refine G_p 1 rfl (by decide +kernel) (Y_lnl is32 h) ?_
  intro v h
  refine G_p 2 rfl (by decide +kernel) (Y_eqi h) ?_
  intro v h
  refine G_p 3 rfl (by decide +kernel) (Y_mv h) ?_
  intro v h
  refine G_pg (t := 10) 4 rfl (by decide +kernel) h rfl rfl (fun h => Y_mv h) ?_
  intro v h
  refine G_rg (t := 10) _ 5 rfl (by decide +kernel) h rfl rfl (fun h => R_ld sc3 h) ?_
  intro v h
  refine G_pg (t := 10) 6 rfl (by decide +kernel) h rfl rfl (fun h => Y_ia se33 h) ?_
  intro v h
  refine G_rg (t := 10) _ 7 rfl (by decide +kernel) h rfl rfl (fun h => R_ldn ag31 h) ?_
  intro v h
  refine G_rg (t := 10) _ 8 rfl (by decide +kernel) h rfl rfl (fun h => R_ld sc32 h) ?_
  intro v h
  refine G_pg (t := 10) 9 rfl (by decide +kernel) h rfl rfl (fun h => Y_ia se32 h) ?_
  intro v h
  refine G_rg (t := 10) _ 10 rfl (by decide +kernel) h rfl rfl (fun h => R_ldn ag31 h) ?_
  intro v h
  refine G_eg (t := 10) 11 rfl (by decide +kernel) h rfl rfl (fun c h => N_cl Try.func35 rfl nn35 (fun w Q h => s35 _ _ w Q h) h c) ?_
  intro v w h
  refine ⟨keepF_dep [10] (by decide +kernel) rfl (keepF_dep [10, 9, 8] (by decide +kernel) rfl (keepF_dep [7] (by decide +kernel) rfl (keepF_dep [7, 6, 5] (by decide +kernel) rfl (keepF_dep [3, 2, 1, 0] (by decide +kernel) rfl keepF_nil)))), ?_⟩
  refine G_pg (t := 10) 12 rfl (by decide +kernel) h rfl rfl (fun h => Y_ge h) ?_
  intro v h
  refine G_p 13 rfl (by decide +kernel) (Y_pk h) ?_
  intro v h
  refine G_p 14 rfl (by decide +kernel) (Y_as h) ?_
  intro v h
  refine G_done (by decide +kernel) ?_
  refine E_n ?_
  refine wp_seq ?_
  refine D_region (by decide +kernel) 18 rfl ?_
  replace h := dr_e h
  refine G_p 0 rfl (by decide +kernel) (Y_mv h) ?_
  intro v h
  refine G_p 1 rfl (by decide +kernel) (Y_mv h) ?_
  intro v h
  refine G_rg (t := 22) _ 2 rfl (by decide +kernel) h rfl rfl (fun h => R_ld sc32 h) ?_
  intro v h
  refine G_pg (t := 22) 3 rfl (by decide +kernel) h rfl rfl (fun h => Y_lnl is32 h) ?_
  intro v h
  refine G_pg (t := 22) 4 rfl (by decide +kernel) h rfl rfl (fun h => Y_eqi h) ?_
  intro v h
  refine G_pg (t := 22) 5 rfl (by decide +kernel) h rfl rfl (fun h => Y_mv h) ?_
  intro v h
  refine G_pg (t := 26) 6 rfl (by decide +kernel) h rfl rfl (fun h => Y_mv h) ?_
  intro v h
  refine G_rg (t := 26) _ 7 rfl (by decide +kernel) h rfl rfl (fun h => R_ld sc3 h) ?_
  intro v h
  refine G_pg (t := 26) 8 rfl (by decide +kernel) h rfl rfl (fun h => Y_ia se33 h) ?_
  intro v h
  refine G_rg (t := 26) _ 9 rfl (by decide +kernel) h rfl rfl (fun h => R_ldn ag31 h) ?_
  intro v h
  refine G_rg (t := 26) _ 10 rfl (by decide +kernel) h rfl rfl (fun h => R_ld sc32 h) ?_
  intro v h
  refine G_pg (t := 26) 11 rfl (by decide +kernel) h rfl rfl (fun h => Y_ia se32 h) ?_
  intro v h
  refine G_rg (t := 26) _ 12 rfl (by decide +kernel) h rfl rfl (fun h => R_ldn ag31 h) ?_
  intro v h
  refine G_eg (t := 26) 13 rfl (by decide +kernel) h rfl rfl (fun c h => N_cl Try.func35 rfl nn35 (fun w Q h => s35 _ _ w Q h) h c) ?_
  intro v w h
  refine ⟨keepF_dep [12] (by decide +kernel) rfl (keepF_dep [12, 11, 10] (by decide +kernel) rfl (keepF_dep [9] (by decide +kernel) rfl (keepF_dep [9, 8, 7] (by decide +kernel) rfl (keepF_dep [5, 4, 3, 2] (by decide +kernel) rfl keepF_nil)))), ?_⟩
  refine G_pg (t := 26) 14 rfl (by decide +kernel) h rfl rfl (fun h => Y_lt h) ?_
  intro v h
  refine G_pg (t := 22) 15 rfl (by decide +kernel) h rfl rfl (fun h => Y_pk h) ?_
  intro v h
  refine G_p 16 rfl (by decide +kernel) (Y_pk h) ?_
  intro v h
  refine G_p 17 rfl (by decide +kernel) (Y_as h) ?_
  intro v h
  refine G_done (by decide +kernel) ?_
  refine E_n ?_
  refine C_ret ?_
  show bodyPost Try.prog Try.f34 (Rt Q) .ret _ _
  exact post_tmps (ts := [5]) (.inr rfl) rfl h

/- factotum/relate.Where -/
def f18 (t0 t1 t2 t3 : Value) : M :=
  bx 3 t1 fun t5 =>
  bx 32 t2 fun t6 =>
  bx 32 t3 fun t7 =>
  ld t5 fun t11 =>
  cl (f26 t0 t11) fun t12 =>
  cnd t12 (
    rt (.tuple #[(.slice none 0 0), (.int .i64 7)])
    ) (
    idv (.func (.func 34) #[] #[t6, t5, t7]) fun t14 =>
    cl (f32 t0 t14) fun t15 =>
    rt (.tuple #[t15, (.int .i64 0)])
    )
theorem s18 (t0 t1 t2 t3 : Value) (w : World) (Q : Value → World → Prop) (h : f18 t0 t1 t2 t3 w Q) : Calls Try.prog 18 #[t0, t1, t2, t3] w (Rt Q) := by
  refine calls_of (l := [t0, t1, t2, t3]) Try.func18 rfl Try.ntmps18 (Nat.le_of_ble_eq_true rfl) ?_
  unfold f18 at h
  refine wp_seq ?_
  refine L_region ?_
  refine L_u (P_bx h) ?_
  intro v w h
  refine L_u (P_bx h) ?_
  intro v w h
  refine L_u (P_bx h) ?_
  intro v w h
  refine L_as ?_
  refine L_as ?_
  refine L_nil ?_
  refine E_n ?_
  refine wp_seq ?_
  refine wp_seq ?_
  refine L_region ?_
  refine L_mv ?_
  refine L_u (P_ld sc3 h) ?_
  intro v w h
  refine L_u (N_cl Try.func26 rfl nn26 (fun w Q h => s26 _ _ w Q h) h) ?_
  intro v w h
  refine L_nil ?_
  refine E_n ?_
  refine C_cnd h (fun h => ?_) (fun h => ?_)
  · refine wp_seq ?_
    refine L_region ?_
    refine L_as ?_
    refine L_as ?_
    refine L_nil ?_
    refine E_n ?_
    refine C_ret ?_
    show bodyPost Try.prog Try.f18 (Rt Q) .ret _ _
    exact post_tmps (ts := [8, 9]) (.inr rfl) rfl h
  · refine C_skip ?_
    refine E_n ?_
    refine wp_seq ?_
    refine L_region ?_
    refine L_mv ?_
    refine L_u (N_mf h) ?_
    intro v w h
    refine L_u (N_cl Try.func32 rfl nn32 (fun w Q h => s32 _ _ w Q h) h) ?_
    intro v w h
    refine L_as ?_
    refine L_as ?_
    refine L_nil ?_
    refine E_n ?_
    refine C_ret ?_
    show bodyPost Try.prog Try.f18 (Rt Q) .ret _ _
    exact post_tmps (ts := [8, 9]) (.inr rfl) rfl h

/- factotum/factotumlaw31.RelateParts -/
def f5_j4 (self2 : Value → Value → Value → Value → Value → Value → Value → Value → M) (t0_3 t1_3 t5_3 t7_2 t9_2 t11_2 t12_2 t13_2 : Value) : M :=
  ad .i64 t13_2 (.int .i64 1) fun t44 =>
  self2 t0_3 t1_3 t5_3 t7_2 t9_2 t11_2 t12_2 t44
def f5_j3 (self2 : Value → Value → Value → Value → Value → Value → Value → Value → M) (t0_2 t1_2 t5_2 t7_1 t9_1 t11_1 t12_1 t13_1 t62_2 : Value) : M :=
  jn (fun (j4 : Value → Value → Value → Value → Value → Value → Value → Value → M) =>
    cnd t62_2 (
      dr <|
      idv t7_1 fun t63 =>
      idv t11_1 fun t64 =>
      ia 1 t63 t64 fun t65 =>
      ld t65 fun t66 =>
      idv t0_2 fun t67 =>
      idv t13_1 fun t68 =>
      ia 1 t67 t68 fun t69 =>
      ld t69 fun t70 =>
      cl (f11 t66 t70) fun t71 =>
      nt t71 fun t72 =>
      cnd t72 (
        rt (.bool false)
        ) (
        ad .i64 t11_1 (.int .i64 1) fun t74 =>
        j4 t0_2 t1_2 t5_2 t7_1 t9_1 t74 t12_1 t13_1
        )
      ) (
      lnl t9_1 fun t77 =>
      lt .i64 t12_1 t77 fun t78 =>
      cnd t78 (
        dr <|
        idv t9_1 fun t79 =>
        idv t12_1 fun t80 =>
        ia 1 t79 t80 fun t81 =>
        ld t81 fun t82 =>
        idv t0_2 fun t83 =>
        idv t13_1 fun t84 =>
        ia 1 t83 t84 fun t85 =>
        ld t85 fun t86 =>
        cl (f11 t82 t86) fun t87 =>
        nt t87 fun t88 =>
        cnd t88 (
          rt (.bool false)
          ) (
          ad .i64 t12_1 (.int .i64 1) fun t90 =>
          j4 t0_2 t1_2 t5_2 t7_1 t9_1 t11_1 t90 t13_1
          )
        ) (
        j4 t0_2 t1_2 t5_2 t7_1 t9_1 t11_1 t12_1 t13_1
        )
      )
    ) (f5_j4 self2)
def f5_b2 (j1 : Value → Value → Value → Value → Value → M) (self2 : Value → Value → Value → Value → Value → Value → Value → Value → M) (t0_1 t1_1 t5_1 t7 t9 t11 t12 t13 : Value) : M :=
  lnl t0_1 fun t41 =>
  lt .i64 t13 t41 fun t42 =>
  cnd t42 (
    jn (fun (j3 : Value → Value → Value → Value → Value → Value → Value → Value → Value → M) =>
      dr <|
      idv t11 fun t45 =>
      idv t7 fun t46 =>
      lnl t46 fun t47 =>
      lt .i64 t45 t47 fun t48 =>
      idv t48 fun t49 =>
      gd t49 true (idv t0_1) fun t50 =>
      gd t49 true (idv t13) fun t51 =>
      gd t49 true (ia 1 t50 t51) fun t52 =>
      gd t49 true (ld t52) fun t53 =>
      gd t49 true (idv t1_1) fun t54 =>
      gd t49 true (ia 3 t53 t54) fun t55 =>
      gd t49 true (ldn 3 t55) fun t56 =>
      gd t49 true (ldn 3 t5_1) fun t58 =>
      amb (
        gd t49 true (sm Try.prog (Instr.buildSlice 32 1 #[(0, t56)])) fun t57 =>
        kp (fun w => gdB t49 true = true → Kldn 3 t5_1 t58 w) <|
        gd t49 true (sm Try.prog (Instr.buildSlice 32 1 #[(0, t58)])) fun t59_1 =>
        kp (fun w => gdB t49 true = true → Kldn 3 t55 t56 w) <|
        kp (fun w => gdB t49 true = true → Kld t52 t53 w) <|
        gd t49 true (cl (f19 t57 t59_1)) fun t60 =>
        gd t49 true (lt .i64 t60 (.int .i64 0)) fun t61 =>
        pk t49 t61 (.bool false) fun t62 =>
        j3 t0_1 t1_1 t5_1 t7 t9 t11 t12 t13 t62
        ) (
        gd t49 true (sm Try.prog (Instr.buildSlice 32 1 #[(0, t58)])) fun t59 =>
        kp (fun w => gdB t49 true = true → Kldn 3 t55 t56 w) <|
        kp (fun w => gdB t49 true = true → Kld t52 t53 w) <|
        gd t49 true (sm Try.prog (Instr.buildSlice 32 1 #[(0, t56)])) fun t57_1 =>
        kp (fun w => gdB t49 true = true → Kldn 3 t5_1 t58 w) <|
        gd t49 true (cl (f19 t57_1 t59)) fun t60_1 =>
        gd t49 true (lt .i64 t60_1 (.int .i64 0)) fun t61_1 =>
        pk t49 t61_1 (.bool false) fun t62_1 =>
        j3 t0_1 t1_1 t5_1 t7 t9 t11 t12 t13 t62_1
        )
      ) (f5_j3 self2)
    ) (
    j1 t0_1 t7 t9 t11 t12
    )
def f5_j1 (t0_4 t7_3 t9_3 t11_3 t12_3 : Value) : M :=
  cl (f14 t0_4) fun t92 =>
  lnl t7_3 fun t95 =>
  eqi .i64 t11_3 t95 fun t96 =>
  gd t96 true (idv t12_3) fun t98 =>
  gd t96 true (idv t9_3) fun t99 =>
  gd t96 true (lnl t99) fun t100 =>
  gd t96 true (eqi .i64 t98 t100) fun t101 =>
  pk t96 t101 (.bool false) fun t102 =>
  gd t102 true (idv t11_3) fun t104 =>
  gd t102 true (idv t12_3) fun t105 =>
  gd t102 true (ad .i64 t104 t105) fun t106 =>
  gd t102 true (idv t0_4) fun t107 =>
  gd t102 true (lnl t107) fun t108 =>
  gd t102 true (eqi .i64 t106 t108) fun t109 =>
  pk t102 t109 (.bool false) fun t110 =>
  gd t110 true (idv t0_4) fun t112 =>
  gd t110 true (idv t0_4) fun t113 =>
  gd t110 true (cl (f16 t112 t113)) fun t114 =>
  gd t110 true (lnl t114) fun t115 =>
  gd t110 true (eqi .i64 t115 (.int .i64 0)) fun t116 =>
  pk t110 t116 (.bool false) fun t117 =>
  gd t117 true (idv t0_4) fun t119 =>
  gd t117 true (idv t92) fun t120 =>
  gd t117 true (cl (f16 t119 t120)) fun t121 =>
  gd t117 true (lnl t121) fun t122 =>
  gd t117 true (eqi .i64 t122 (.int .i64 0)) fun t123 =>
  pk t117 t123 (.bool false) fun t124 =>
  gd t124 true (idv t92) fun t126 =>
  gd t124 true (cl (f14 t126)) fun t127 =>
  gd t124 true (idv t92) fun t128 =>
  gd t124 true (cl (f13 t127 t128)) fun t129 =>
  pk t124 t129 (.bool false) fun t130 =>
  rt t130
def f5 (t0 t1 t2 : Value) : M :=
  bx 31 t2 fun t5 =>
  cl (f8) fun t15 =>
  nt t15 fun t16 =>
  cnd t16 (
    rt (.bool false)
    ) (
    cl (f9 t0) fun t18 =>
    ldn 3 t5 fun t22 =>
    sm Try.prog (Instr.buildSlice 32 1 #[(0, t22)]) fun t23 =>
    cl (f18 t18 t1 (.slice none 0 0) t23) fun t24 =>
    ex 0 t24 fun t25 =>
    ex 1 t24 fun t26 =>
    ldn 3 t5 fun t30 =>
    sm Try.prog (Instr.buildSlice 32 1 #[(0, t30)]) fun t31 =>
    cl (f18 t18 t1 t31 (.slice none 0 0)) fun t32 =>
    ex 0 t32 fun t33 =>
    ex 1 t32 fun t34 =>
    nei .i64 t26 (.int .i64 0) fun t36 =>
    cnd t36 (
      eqi .i64 t34 (.int .i64 7) fun t38 =>
      rt t38
      ) (
      jn (fun (j1 : Value → Value → Value → Value → Value → M) =>
        lo (fun _ _ _ _ _ _ _ _ => bot) (f5_b2 j1) (fun l => l t18 t1 t5 t25 t33 (.int .i64 0) (.int .i64 0) (.int .i64 0))
        ) (f5_j1)
      )
    )
theorem s5 (t0 t1 t2 : Value) (w : World) (Q : Value → World → Prop) (h : f5 t0 t1 t2 w Q) : Calls Try.prog 5 #[t0, t1, t2] w (Rt Q) := by
  refine calls_of (l := [t0, t1, t2]) Try.func5 rfl Try.ntmps5 (Nat.le_of_ble_eq_true rfl) ?_
  unfold f5 at h
  refine wp_seq ?_
  refine L_region ?_
  refine L_u (P_bx h) ?_
  intro v w h
  refine L_as ?_
  refine L_nil ?_
  refine E_n ?_
  refine wp_seq ?_
  refine wp_seq ?_
  refine L_region ?_
  refine L_u (N_cl Try.func8 rfl nn8 (fun w Q h => s8 w Q h) h) ?_
  intro v w h
  refine L_u (P_nt h) ?_
  intro v w h
  refine L_nil ?_
  refine E_n ?_
  refine C_cnd h (fun h => ?_) (fun h => ?_)
  · refine wp_seq ?_
    refine L_region ?_
    refine L_as ?_
    refine L_nil ?_
    refine E_n ?_
    refine C_ret ?_
    show bodyPost Try.prog Try.f5 (Rt Q) .ret _ _
    exact post_tmps (ts := [6]) (.inr rfl) rfl h
  · refine C_skip ?_
    refine E_n ?_
    refine wp_seq ?_
    refine L_region ?_
    refine L_mv ?_
    refine L_u (N_cl Try.func9 rfl nn9 (fun w Q h => s9 _ w Q h) h) ?_
    intro v w h
    refine L_as ?_
    refine L_nil ?_
    refine E_n ?_
    refine wp_seq ?_
    refine L_region ?_
    refine L_mv ?_
    refine L_mv ?_
    refine L_u (P_ldn ag31 h) ?_
    intro v w h
    refine L_u (N_bsl h) ?_
    intro v w h
    refine L_u (N_cl Try.func18 rfl nn18 (fun w Q h => s18 _ _ _ _ w Q h) h) ?_
    intro v w h
    refine L_mv ?_
    refine L_u (P_ex h) ?_
    intro v w h
    refine L_u (P_ex h) ?_
    intro v w h
    refine L_as ?_
    refine L_as ?_
    refine L_nil ?_
    refine E_n ?_
    refine wp_seq ?_
    refine L_region ?_
    refine L_mv ?_
    refine L_mv ?_
    refine L_u (P_ldn ag31 h) ?_
    intro v w h
    refine L_u (N_bsl h) ?_
    intro v w h
    refine L_u (N_cl Try.func18 rfl nn18 (fun w Q h => s18 _ _ _ _ w Q h) h) ?_
    intro v w h
    refine L_mv ?_
    refine L_u (P_ex h) ?_
    intro v w h
    refine L_u (P_ex h) ?_
    intro v w h
    refine L_as ?_
    refine L_as ?_
    refine L_nil ?_
    refine E_n ?_
    refine wp_seq ?_
    refine wp_seq ?_
    refine L_region ?_
    refine L_mv ?_
    refine L_u (P_nei h) ?_
    intro v w h
    refine L_nil ?_
    refine E_n ?_
    refine C_cnd h (fun h => ?_) (fun h => ?_)
    · refine wp_seq ?_
      refine L_region ?_
      refine L_mv ?_
      refine L_u (P_eqi h) ?_
      intro v w h
      refine L_as ?_
      refine L_nil ?_
      refine E_n ?_
      refine C_ret ?_
      show bodyPost Try.prog Try.f5 (Rt Q) .ret _ _
      exact post_tmps (ts := [6]) (.inr rfl) rfl h
    · refine C_skip ?_
      refine E_n ?_
      refine wp_seq ?_
      refine L_region ?_
      refine L_as ?_
      refine L_as ?_
      refine L_nil ?_
      refine E_n ?_
      refine wp_seq ?_
      refine wp_seq ?_
      refine L_region ?_
      refine L_as ?_
      refine L_nil ?_
      refine E_n ?_
      refine C_join (fun (k : Value → Value → Value → Value → Value → M) (ρ : Nat → Value) => k (ρ 0) (ρ 7) (ρ 9) (ρ 11) (ρ 12)) h (fun j1 J1 h => ?_) (fun ρ w h => ?_)
      · refine C_blk ?_
        refine C_lo (fun (l : Value → Value → Value → Value → Value → Value → Value → Value → M) (ρ : Nat → Value) => l (ρ 0) (ρ 1) (ρ 5) (ρ 7) (ρ 9) (ρ 11) (ρ 12) (ρ 13)) h (fun ρ w h => h) (fun nx self2 L2 ρ w h => ?_)
        unfold f5_b2 at h
        refine wp_seq ?_
        refine wp_seq ?_
        refine L_region ?_
        refine L_mv ?_
        refine L_mv ?_
        refine L_u (P_lnl is22 h) ?_
        intro v w h
        refine L_u (P_lt h) ?_
        intro v w h
        refine L_nil ?_
        refine E_n ?_
        refine C_cnd h (fun h => ?_) (fun h => ?_)
        · refine C_skip ?_
          refine E_n ?_
          refine wp_seq ?_
          refine C_blk ?_
          refine wp_seq ?_
          refine C_join (fun (k : Value → Value → Value → Value → Value → Value → Value → Value → Value → M) (ρ : Nat → Value) => k (ρ 0) (ρ 1) (ρ 5) (ρ 7) (ρ 9) (ρ 11) (ρ 12) (ρ 13) (ρ 62)) h (fun j3 J3 h => ?_) (fun ρ w h => ?_)
          · refine D_region (by decide +kernel) 18 rfl ?_
            replace h := dr_e h
            refine G_p 0 rfl (by decide +kernel) (Y_mv h) ?_
            intro v h
            refine G_p 1 rfl (by decide +kernel) (Y_mv h) ?_
            intro v h
            refine G_p 2 rfl (by decide +kernel) (Y_lnl is22 h) ?_
            intro v h
            refine G_p 3 rfl (by decide +kernel) (Y_lt h) ?_
            intro v h
            refine G_p 4 rfl (by decide +kernel) (Y_mv h) ?_
            intro v h
            refine G_pg (t := 49) 5 rfl (by decide +kernel) h rfl rfl (fun h => Y_mv h) ?_
            intro v h
            refine G_pg (t := 49) 6 rfl (by decide +kernel) h rfl rfl (fun h => Y_mv h) ?_
            intro v h
            refine G_pg (t := 49) 7 rfl (by decide +kernel) h rfl rfl (fun h => Y_ia se22 h) ?_
            intro v h
            refine G_rg (t := 49) _ 8 rfl (by decide +kernel) h rfl rfl (fun h => R_ld sc33 h) ?_
            intro v h
            refine G_pg (t := 49) 9 rfl (by decide +kernel) h rfl rfl (fun h => Y_mv h) ?_
            intro v h
            refine G_pg (t := 49) 10 rfl (by decide +kernel) h rfl rfl (fun h => Y_ia se33 h) ?_
            intro v h
            refine G_rg (t := 49) _ 11 rfl (by decide +kernel) h rfl rfl (fun h => R_ldn ag31 h) ?_
            intro v h
            refine G_rg (t := 49) _ 13 rfl (by decide +kernel) h rfl rfl (fun h => R_ldn ag31 h) ?_
            intro v h
            refine G_two (i := 12) (j := 14) (by decide +kernel) (G_opg (t := 49) rfl (amb_1 h) rfl rfl (fun c h => N_bsl h c) ?_) (G_opg (t := 49) rfl (amb_2 h) rfl rfl (fun c h => N_bsl h c) ?_)
            · intro v w h
              refine ⟨keepF_cons (kp_1 h) (keepF_dep [11] (by decide +kernel) rfl (keepF_dep [11, 10, 8] (by decide +kernel) rfl keepF_nil)), ?_⟩
              replace h := (kp_2 h)
              refine G_eg (t := 49) 14 rfl (by decide +kernel) h rfl rfl (fun c h => N_bsl h c) ?_
              intro v w h
              refine ⟨keepF_dep [13] (by decide +kernel) rfl (keepF_cons (kp_1 h) (keepF_cons (kp_1 (kp_2 h)) keepF_nil)), ?_⟩
              replace h := (kp_2 (kp_2 h))
              refine G_eg (t := 49) 15 rfl (by decide +kernel) h rfl rfl (fun c h => N_cl Try.func19 rfl nn19 (fun w Q h => s19 _ _ w Q h) h c) ?_
              intro v w h
              refine ⟨keepF_dep [14, 13] (by decide +kernel) rfl (keepF_dep [12, 11] (by decide +kernel) rfl (keepF_dep [12, 11, 10, 8] (by decide +kernel) rfl keepF_nil)), ?_⟩
              refine G_pg (t := 49) 16 rfl (by decide +kernel) h rfl rfl (fun h => Y_lt h) ?_
              intro v h
              refine G_p 17 rfl (by decide +kernel) (Y_pk h) ?_
              intro v h
              refine G_done (by decide +kernel) ?_
              exact J3 _ _ h
            · intro v w h
              refine ⟨keepF_dep [13] (by decide +kernel) rfl (keepF_cons (kp_1 h) (keepF_cons (kp_1 (kp_2 h)) keepF_nil)), ?_⟩
              replace h := (kp_2 (kp_2 h))
              refine G_eg (t := 49) 12 rfl (by decide +kernel) h rfl rfl (fun c h => N_bsl h c) ?_
              intro v w h
              refine ⟨keepF_cons (kp_1 h) (keepF_dep [11] (by decide +kernel) rfl (keepF_dep [11, 10, 8] (by decide +kernel) rfl keepF_nil)), ?_⟩
              replace h := (kp_2 h)
              refine G_eg (t := 49) 15 rfl (by decide +kernel) h rfl rfl (fun c h => N_cl Try.func19 rfl nn19 (fun w Q h => s19 _ _ w Q h) h c) ?_
              intro v w h
              refine ⟨keepF_dep [14, 13] (by decide +kernel) rfl (keepF_dep [12, 11] (by decide +kernel) rfl (keepF_dep [12, 11, 10, 8] (by decide +kernel) rfl keepF_nil)), ?_⟩
              refine G_pg (t := 49) 16 rfl (by decide +kernel) h rfl rfl (fun h => Y_lt h) ?_
              intro v h
              refine G_p 17 rfl (by decide +kernel) (Y_pk h) ?_
              intro v h
              refine G_done (by decide +kernel) ?_
              exact J3 _ _ h
          · unfold f5_j3 at h
            refine E_n ?_
            refine C_join (fun (k : Value → Value → Value → Value → Value → Value → Value → Value → M) (ρ : Nat → Value) => k (ρ 0) (ρ 1) (ρ 5) (ρ 7) (ρ 9) (ρ 11) (ρ 12) (ρ 13)) h (fun j4 J4 h => ?_) (fun ρ w h => ?_)
            · refine C_cnd h (fun h => ?_) (fun h => ?_)
              · refine wp_seq ?_
                refine wp_seq ?_
                refine D_region (by decide +kernel) 10 rfl ?_
                replace h := dr_e h
                refine G_p 0 rfl (by decide +kernel) (Y_mv h) ?_
                intro v h
                refine G_p 1 rfl (by decide +kernel) (Y_mv h) ?_
                intro v h
                refine G_p 2 rfl (by decide +kernel) (Y_ia se22 h) ?_
                intro v h
                refine G_r _ 3 rfl (by decide +kernel) (R_ld sc33 h) ?_
                intro v h
                refine G_p 4 rfl (by decide +kernel) (Y_mv h) ?_
                intro v h
                refine G_p 5 rfl (by decide +kernel) (Y_mv h) ?_
                intro v h
                refine G_p 6 rfl (by decide +kernel) (Y_ia se22 h) ?_
                intro v h
                refine G_r _ 7 rfl (by decide +kernel) (R_ld sc33 h) ?_
                intro v h
                refine G_e 8 rfl (by decide +kernel) (N_cl Try.func11 rfl nn11 (fun w Q h => s11 _ _ w Q h) h ?_)
                intro v w h
                refine ⟨keepF_dep [7] (by decide +kernel) rfl (keepF_dep [3] (by decide +kernel) rfl keepF_nil), ?_⟩
                refine G_p 9 rfl (by decide +kernel) (Y_nt h) ?_
                intro v h
                refine G_done (by decide +kernel) ?_
                refine E_n ?_
                refine C_cnd h (fun h => ?_) (fun h => ?_)
                · refine wp_seq ?_
                  refine L_region ?_
                  refine L_as ?_
                  refine L_nil ?_
                  refine E_n ?_
                  refine C_ret ?_
                  show bodyPost Try.prog Try.f5 (Rt Q) .ret _ _
                  exact post_tmps (ts := [6]) (.inr rfl) rfl h
                · refine C_skip ?_
                  refine E_n ?_
                  refine L_region ?_
                  refine L_mv ?_
                  refine L_u (P_ad h) ?_
                  intro v w h
                  refine L_as ?_
                  refine L_nil ?_
                  exact J4 _ _ h
              · refine wp_seq ?_
                refine L_region ?_
                refine L_mv ?_
                refine L_mv ?_
                refine L_u (P_lnl is22 h) ?_
                intro v w h
                refine L_u (P_lt h) ?_
                intro v w h
                refine L_nil ?_
                refine E_n ?_
                refine C_cnd h (fun h => ?_) (fun h => ?_)
                · refine wp_seq ?_
                  refine wp_seq ?_
                  refine D_region (by decide +kernel) 10 rfl ?_
                  replace h := dr_e h
                  refine G_p 0 rfl (by decide +kernel) (Y_mv h) ?_
                  intro v h
                  refine G_p 1 rfl (by decide +kernel) (Y_mv h) ?_
                  intro v h
                  refine G_p 2 rfl (by decide +kernel) (Y_ia se22 h) ?_
                  intro v h
                  refine G_r _ 3 rfl (by decide +kernel) (R_ld sc33 h) ?_
                  intro v h
                  refine G_p 4 rfl (by decide +kernel) (Y_mv h) ?_
                  intro v h
                  refine G_p 5 rfl (by decide +kernel) (Y_mv h) ?_
                  intro v h
                  refine G_p 6 rfl (by decide +kernel) (Y_ia se22 h) ?_
                  intro v h
                  refine G_r _ 7 rfl (by decide +kernel) (R_ld sc33 h) ?_
                  intro v h
                  refine G_e 8 rfl (by decide +kernel) (N_cl Try.func11 rfl nn11 (fun w Q h => s11 _ _ w Q h) h ?_)
                  intro v w h
                  refine ⟨keepF_dep [7] (by decide +kernel) rfl (keepF_dep [3] (by decide +kernel) rfl keepF_nil), ?_⟩
                  refine G_p 9 rfl (by decide +kernel) (Y_nt h) ?_
                  intro v h
                  refine G_done (by decide +kernel) ?_
                  refine E_n ?_
                  refine C_cnd h (fun h => ?_) (fun h => ?_)
                  · refine wp_seq ?_
                    refine L_region ?_
                    refine L_as ?_
                    refine L_nil ?_
                    refine E_n ?_
                    refine C_ret ?_
                    show bodyPost Try.prog Try.f5 (Rt Q) .ret _ _
                    exact post_tmps (ts := [6]) (.inr rfl) rfl h
                  · refine C_skip ?_
                    refine E_n ?_
                    refine L_region ?_
                    refine L_mv ?_
                    refine L_u (P_ad h) ?_
                    intro v w h
                    refine L_as ?_
                    refine L_nil ?_
                    exact J4 _ _ h
                · refine C_skip ?_
                  exact J4 _ _ h
            · unfold f5_j4 at h
              refine B_n ?_
              refine E_n ?_
              refine L_region ?_
              refine L_mv ?_
              refine L_u (P_ad h) ?_
              intro v w h
              refine L_as ?_
              refine L_nil ?_
              refine E_n ?_
              exact L2 _ _ h
        · refine C_exit ?_
          refine E_x ?_
          refine E_x ?_
          refine B_x ?_
          exact J1 _ _ h
      · unfold f5_j1 at h
        refine E_n ?_
        refine wp_seq ?_
        refine L_region ?_
        refine L_mv ?_
        refine L_u (N_cl Try.func14 rfl nn14 (fun w Q h => s14 _ w Q h) h) ?_
        intro v w h
        refine L_as ?_
        refine L_nil ?_
        refine E_n ?_
        refine wp_seq ?_
        refine L_region ?_
        refine L_mv ?_
        refine L_mv ?_
        refine L_u (P_lnl is22 h) ?_
        intro v w h
        refine L_u (P_eqi h) ?_
        intro v w h
        refine L_mv ?_
        refine L_g (t := 97) h rfl rfl (fun c h => P_mv h c) ?_
        intro v w h
        refine L_g (t := 97) h rfl rfl (fun c h => P_mv h c) ?_
        intro v w h
        refine L_g (t := 97) h rfl rfl (fun c h => P_lnl is22 h c) ?_
        intro v w h
        refine L_g (t := 97) h rfl rfl (fun c h => P_eqi h c) ?_
        intro v w h
        refine L_u (P_pk h) ?_
        intro v w h
        refine L_mv ?_
        refine L_g (t := 103) h rfl rfl (fun c h => P_mv h c) ?_
        intro v w h
        refine L_g (t := 103) h rfl rfl (fun c h => P_mv h c) ?_
        intro v w h
        refine L_g (t := 103) h rfl rfl (fun c h => P_ad h c) ?_
        intro v w h
        refine L_g (t := 103) h rfl rfl (fun c h => P_mv h c) ?_
        intro v w h
        refine L_g (t := 103) h rfl rfl (fun c h => P_lnl is22 h c) ?_
        intro v w h
        refine L_g (t := 103) h rfl rfl (fun c h => P_eqi h c) ?_
        intro v w h
        refine L_u (P_pk h) ?_
        intro v w h
        refine L_mv ?_
        refine L_g (t := 111) h rfl rfl (fun c h => P_mv h c) ?_
        intro v w h
        refine L_g (t := 111) h rfl rfl (fun c h => P_mv h c) ?_
        intro v w h
        refine L_g (t := 111) h rfl rfl (fun c h => N_cl Try.func16 rfl nn16 (fun w Q h => s16 _ _ w Q h) h c) ?_
        intro v w h
        refine L_g (t := 111) h rfl rfl (fun c h => P_lnl is22 h c) ?_
        intro v w h
        refine L_g (t := 111) h rfl rfl (fun c h => P_eqi h c) ?_
        intro v w h
        refine L_u (P_pk h) ?_
        intro v w h
        refine L_mv ?_
        refine L_g (t := 118) h rfl rfl (fun c h => P_mv h c) ?_
        intro v w h
        refine L_g (t := 118) h rfl rfl (fun c h => P_mv h c) ?_
        intro v w h
        refine L_g (t := 118) h rfl rfl (fun c h => N_cl Try.func16 rfl nn16 (fun w Q h => s16 _ _ w Q h) h c) ?_
        intro v w h
        refine L_g (t := 118) h rfl rfl (fun c h => P_lnl is22 h c) ?_
        intro v w h
        refine L_g (t := 118) h rfl rfl (fun c h => P_eqi h c) ?_
        intro v w h
        refine L_u (P_pk h) ?_
        intro v w h
        refine L_mv ?_
        refine L_g (t := 125) h rfl rfl (fun c h => P_mv h c) ?_
        intro v w h
        refine L_g (t := 125) h rfl rfl (fun c h => N_cl Try.func14 rfl nn14 (fun w Q h => s14 _ w Q h) h c) ?_
        intro v w h
        refine L_g (t := 125) h rfl rfl (fun c h => P_mv h c) ?_
        intro v w h
        refine L_g (t := 125) h rfl rfl (fun c h => N_cl Try.func13 rfl nn13 (fun w Q h => s13 _ _ w Q h) h c) ?_
        intro v w h
        refine L_u (P_pk h) ?_
        intro v w h
        refine L_as ?_
        refine L_nil ?_
        refine E_n ?_
        refine C_ret ?_
        show bodyPost Try.prog Try.f5 (Rt Q) .ret _ _
        exact post_tmps (ts := [6]) (.inr rfl) rfl h

/- factotum/relate.Sort$1 -/
def f38 (t0 : Value) : M :=
  rt (.bool true)
theorem s38 (t0 : Value) (w : World) (Q : Value → World → Prop) (h : f38 t0 w Q) : Calls Try.prog 38 #[t0] w (Rt Q) := by
  refine calls_of (l := [t0]) Try.func38 rfl Try.ntmps38 (Nat.le_of_ble_eq_true rfl) ?_
  unfold f38 at h
  refine wp_seq ?_
  refine L_region ?_
  refine L_as ?_
  refine L_nil ?_
  refine E_n ?_
  refine wp_seq ?_
  refine L_region ?_
  refine L_as ?_
  refine L_nil ?_
  refine E_n ?_
  refine C_ret ?_
  show bodyPost Try.prog Try.f38 (Rt Q) .ret _ _
  exact post_tmps (ts := [2]) (.inr rfl) rfl h

/- slices.insertionSortCmpFunc[factotum/api.Row] -/
def f58_b3 (j2 : Value → Value → Value → Value → Value → M) (self3 : Value → Value → Value → Value → Value → Value → M) (t0_2 t1_2 t2_2 t3_2 t8_1 t9 : Value) : M :=
  dr <|
  idv t9 fun t18 =>
  idv t1_2 fun t19 =>
  gt .i64 t18 t19 fun t20 =>
  idv t20 fun t21 =>
  gd t21 true (idv t3_2) fun t22 =>
  gd t21 true (idv t0_2) fun t23 =>
  gd t21 true (idv t9) fun t24 =>
  gd t21 true (ia 1 t23 t24) fun t25 =>
  gd t21 true (ld t25) fun t26 =>
  gd t21 true (idv t0_2) fun t27 =>
  gd t21 true (idv t9) fun t28 =>
  gd t21 true (su .i64 t28 (.int .i64 1)) fun t29 =>
  gd t21 true (ia 1 t27 t29) fun t30 =>
  gd t21 true (ld t30) fun t31 =>
  gd t21 true (cf Try.prog t22 #[t26, t31]) fun t32 =>
  gd t21 true (lt .i64 t32 (.int .i64 0)) fun t33 =>
  pk t21 t33 (.bool false) fun t34 =>
  cnd t34 (
    dr <|
    idv t0_2 fun t37 =>
    idv t9 fun t38 =>
    idv t0_2 fun t39 =>
    idv t9 fun t40 =>
    su .i64 t40 (.int .i64 1) fun t41 =>
    idv t0_2 fun t42 =>
    idv t9 fun t43 =>
    su .i64 t43 (.int .i64 1) fun t44 =>
    ia 1 t42 t44 fun t45 =>
    ld t45 fun t46 =>
    idv t0_2 fun t47 =>
    idv t9 fun t48 =>
    ia 1 t47 t48 fun t49 =>
    ld t49 fun t50 =>
    ia 1 t37 t38 fun t51 =>
    st t51 t46 <|
    ia 1 t39 t41 fun t52 =>
    st t52 t50 <|
    su .i64 t9 (.int .i64 1) fun t36 =>
    self3 t0_2 t1_2 t2_2 t3_2 t8_1 t36
    ) (
    j2 t0_2 t1_2 t2_2 t3_2 t8_1
    )
def f58_j2 (self1 : Value → Value → Value → Value → Value → M) (t0_3 t1_3 t2_3 t3_3 t8_2 : Value) : M :=
  ad .i64 t8_2 (.int .i64 1) fun t16 =>
  self1 t0_3 t1_3 t2_3 t3_3 t16
def f58_b1 (self1 : Value → Value → Value → Value → Value → M) (t0_1 t1_1 t2_1 t3_1 t8 : Value) : M :=
  lt .i64 t8 t2_1 fun t14 =>
  cnd t14 (
    jn (fun (j2 : Value → Value → Value → Value → Value → M) =>
      lo (fun _ _ _ _ _ _ => bot) (f58_b3 j2) (fun l => l t0_1 t1_1 t2_1 t3_1 t8 t8)
      ) (f58_j2 self1)
    ) (
    rt (.tuple #[])
    )
def f58 (t0 t1 t2 t3 : Value) : M :=
  ad .i64 t1 (.int .i64 1) fun t11 =>
  lo (fun _ _ _ _ _ => bot) (f58_b1) (fun l => l t0 t1 t2 t3 t11)
theorem s58 (t0 t1 t2 t3 : Value) (w : World) (Q : Value → World → Prop) (h : f58 t0 t1 t2 t3 w Q) : Calls Try.prog 58 #[t0, t1, t2, t3] w (Rt Q) := by
  refine calls_of (l := [t0, t1, t2, t3]) Try.func58 rfl Try.ntmps58 (Nat.le_of_ble_eq_true rfl) ?_
  unfold f58 at h
  refine wp_seq ?_
  refine L_region ?_
  refine L_mv ?_
  refine L_u (P_ad h) ?_
  intro v w h
  refine L_as ?_
  refine L_nil ?_
  refine E_n ?_
  refine C_blk ?_
  refine C_lo (fun (l : Value → Value → Value → Value → Value → M) (ρ : Nat → Value) => l (ρ 0) (ρ 1) (ρ 2) (ρ 3) (ρ 8)) h (fun ρ w h => h) (fun nx self1 L1 ρ w h => ?_)
  unfold f58_b1 at h
  refine wp_seq ?_
  refine wp_seq ?_
  refine L_region ?_
  refine L_mv ?_
  refine L_mv ?_
  refine L_u (P_lt h) ?_
  intro v w h
  refine L_nil ?_
  refine E_n ?_
  refine C_cnd h (fun h => ?_) (fun h => ?_)
  · refine C_skip ?_
    refine E_n ?_
    refine wp_seq ?_
    refine C_blk ?_
    refine wp_seq ?_
    refine L_region ?_
    refine L_mv ?_
    refine L_as ?_
    refine L_nil ?_
    refine E_n ?_
    refine C_join (fun (k : Value → Value → Value → Value → Value → M) (ρ : Nat → Value) => k (ρ 0) (ρ 1) (ρ 2) (ρ 3) (ρ 8)) h (fun j2 J2 h => ?_) (fun ρ w h => ?_)
    · refine C_blk ?_
      refine C_lo (fun (l : Value → Value → Value → Value → Value → Value → M) (ρ : Nat → Value) => l (ρ 0) (ρ 1) (ρ 2) (ρ 3) (ρ 8) (ρ 9)) h (fun ρ w h => h) (fun nx self3 L3 ρ w h => ?_)
      unfold f58_b3 at h
      refine wp_seq ?_
      refine wp_seq ?_
      refine D_region (by decide +kernel) 17 rfl ?_
      replace h := dr_e h
      refine G_p 0 rfl (by decide +kernel) (Y_mv h) ?_
      intro v h
      refine G_p 1 rfl (by decide +kernel) (Y_mv h) ?_
      intro v h
      refine G_p 2 rfl (by decide +kernel) (Y_gt h) ?_
      intro v h
      refine G_p 3 rfl (by decide +kernel) (Y_mv h) ?_
      intro v h
      refine G_pg (t := 21) 4 rfl (by decide +kernel) h rfl rfl (fun h => Y_mv h) ?_
      intro v h
      refine G_pg (t := 21) 5 rfl (by decide +kernel) h rfl rfl (fun h => Y_mv h) ?_
      intro v h
      refine G_pg (t := 21) 6 rfl (by decide +kernel) h rfl rfl (fun h => Y_mv h) ?_
      intro v h
      refine G_pg (t := 21) 7 rfl (by decide +kernel) h rfl rfl (fun h => Y_ia se22 h) ?_
      intro v h
      refine G_rg (t := 21) _ 8 rfl (by decide +kernel) h rfl rfl (fun h => R_ld sc33 h) ?_
      intro v h
      refine G_pg (t := 21) 9 rfl (by decide +kernel) h rfl rfl (fun h => Y_mv h) ?_
      intro v h
      refine G_pg (t := 21) 10 rfl (by decide +kernel) h rfl rfl (fun h => Y_mv h) ?_
      intro v h
      refine G_pg (t := 21) 11 rfl (by decide +kernel) h rfl rfl (fun h => Y_su h) ?_
      intro v h
      refine G_pg (t := 21) 12 rfl (by decide +kernel) h rfl rfl (fun h => Y_ia se22 h) ?_
      intro v h
      refine G_rg (t := 21) _ 13 rfl (by decide +kernel) h rfl rfl (fun h => R_ld sc33 h) ?_
      intro v h
      refine G_eg (t := 21) 14 rfl (by decide +kernel) h rfl rfl (fun c h => N_cf h c) ?_
      intro v w h
      refine ⟨keepF_dep [13] (by decide +kernel) rfl (keepF_dep [8] (by decide +kernel) rfl keepF_nil), ?_⟩
      refine G_pg (t := 21) 15 rfl (by decide +kernel) h rfl rfl (fun h => Y_lt h) ?_
      intro v h
      refine G_p 16 rfl (by decide +kernel) (Y_pk h) ?_
      intro v h
      refine G_done (by decide +kernel) ?_
      refine E_n ?_
      refine C_cnd h (fun h => ?_) (fun h => ?_)
      · refine C_skip ?_
        refine E_n ?_
        refine wp_seq ?_
        refine C_blk ?_
        refine D_region (by decide +kernel) 18 rfl ?_
        replace h := dr_e h
        refine G_p 0 rfl (by decide +kernel) (Y_mv h) ?_
        intro v h
        refine G_p 1 rfl (by decide +kernel) (Y_mv h) ?_
        intro v h
        refine G_p 2 rfl (by decide +kernel) (Y_mv h) ?_
        intro v h
        refine G_p 3 rfl (by decide +kernel) (Y_mv h) ?_
        intro v h
        refine G_p 4 rfl (by decide +kernel) (Y_su h) ?_
        intro v h
        refine G_p 5 rfl (by decide +kernel) (Y_mv h) ?_
        intro v h
        refine G_p 6 rfl (by decide +kernel) (Y_mv h) ?_
        intro v h
        refine G_p 7 rfl (by decide +kernel) (Y_su h) ?_
        intro v h
        refine G_p 8 rfl (by decide +kernel) (Y_ia se22 h) ?_
        intro v h
        refine G_r _ 9 rfl (by decide +kernel) (R_ld sc33 h) ?_
        intro v h
        refine G_p 10 rfl (by decide +kernel) (Y_mv h) ?_
        intro v h
        refine G_p 11 rfl (by decide +kernel) (Y_mv h) ?_
        intro v h
        refine G_p 12 rfl (by decide +kernel) (Y_ia se22 h) ?_
        intro v h
        refine G_r _ 13 rfl (by decide +kernel) (R_ld sc33 h) ?_
        intro v h
        refine G_p 14 rfl (by decide +kernel) (Y_ia se22 h) ?_
        intro v h
        refine G_e 15 rfl (by decide +kernel) (P_st on33 h ?_)
        intro w h
        refine ⟨keepF_dep [13] (by decide +kernel) rfl (keepF_dep [9] (by decide +kernel) rfl keepF_nil), ?_⟩
        refine G_p 16 rfl (by decide +kernel) (Y_ia se22 h) ?_
        intro v h
        refine G_e 17 rfl (by decide +kernel) (P_st on33 h ?_)
        intro w h
        refine ⟨keepF_dep [13] (by decide +kernel) rfl (keepF_dep [9] (by decide +kernel) rfl keepF_nil), ?_⟩
        refine G_done (by decide +kernel) ?_
        refine B_n ?_
        refine E_n ?_
        refine L_region ?_
        refine L_mv ?_
        refine L_u (P_su h) ?_
        intro v w h
        refine L_as ?_
        refine L_nil ?_
        refine E_n ?_
        exact L3 _ _ h
      · refine C_exit ?_
        refine E_x ?_
        refine E_x ?_
        refine B_x ?_
        exact J2 _ _ h
    · unfold f58_j2 at h
      refine B_n ?_
      refine E_n ?_
      refine L_region ?_
      refine L_mv ?_
      refine L_u (P_ad h) ?_
      intro v w h
      refine L_as ?_
      refine L_nil ?_
      refine E_n ?_
      exact L1 _ _ h
  · refine C_exit ?_
    refine E_x ?_
    refine E_x ?_
    refine B_x ?_
    show bodyPost Try.prog Try.f58 (Rt Q) .normal _ _
    exact post_tmps (ts := []) (.inl rfl) rfl h
end Go.Proofs.Ytlmiimojgledpaa
