/- Functions as predicate transformers, and that the machine does what they say, by program. -/
import Derived.Test.YtlmiimojgledpaaZ0
import Derived.Lib.ConvBytes
import Derived.Laws.StructEq
import Derived.ChangeKeysEq
import Derived.Lib.AppendStr
import Derived.Laws.BytesArg
import Derived.Laws.OwnMore
set_option linter.unusedVariables false
set_option linter.unusedSimpArgs false
set_option linter.unusedSectionVars false
set_option maxRecDepth 20000
set_option maxHeartbeats 4000000
namespace Go.Proofs.Ytlmiimojgledpaa
open Sh
attribute [local irreducible] wpL anyG act jn lo gdB amb kp smr nc fa ld ldn st stn ad su mu qu re lt le gt ge eqi nei bws shl shr cat eqs nes lts gts eqb neb nt pk cv al bx ex fld fldn lnl lns ia iaa ixs sls sll sla mif mnm mxm mm asrt sm smu cl cc cf ci cnd gd gdu
/- factotum/factotumref03.SameRows -/
def f13_b2 (j1 : M) (self2 : Value → Value → Value → M) (t0_1 t1_1 t5 : Value) : M :=
  lnl t0_1 fun t13 =>
  lt .i64 t5 t13 fun t14 =>
  cnd t14 (
    dr <|
    idv t0_1 fun t17 =>
    idv t5 fun t18 =>
    ia 1 t17 t18 fun t19 =>
    ld t19 fun t20 =>
    idv t1_1 fun t21 =>
    idv t5 fun t22 =>
    ia 1 t21 t22 fun t23 =>
    ld t23 fun t24 =>
    cl (f11 t20 t24) fun t25 =>
    nt t25 fun t26 =>
    cnd t26 (
      rt (.bool false)
      ) (
      ad .i64 t5 (.int .i64 1) fun t16 =>
      self2 t0_1 t1_1 t16
      )
    ) (
    j1
    )
def f13_j1 : M :=
  rt (.bool true)
def f13 (t0 t1 : Value) : M :=
  lnl t0 fun t7 =>
  lnl t1 fun t9 =>
  nei .i64 t7 t9 fun t10 =>
  cnd t10 (
    rt (.bool false)
    ) (
    jn (fun (j1 : M) =>
      lo (fun _ _ _ => bot) (f13_b2 j1) (fun l => l t0 t1 (.int .i64 0))
      ) (f13_j1)
    )
theorem s13 (t0 t1 : Value) (w : World) (Q : Value → World → Prop) (h : f13 t0 t1 w Q) : Calls Try.prog 13 #[t0, t1] w (Rt Q) := by
  refine calls_of (l := [t0, t1]) Try.func13 rfl Try.ntmps13 (Nat.le_of_ble_eq_true rfl) ?_
  unfold f13 at h
  refine wp_seq ?_
  refine L_region ?_
  refine L_as ?_
  refine L_nil ?_
  refine E_n ?_
  refine wp_seq ?_
  refine wp_seq ?_
  refine L_region ?_
  refine L_mv ?_
  refine L_u (P_lnl is22 h) ?_
  intro v w h
  refine L_mv ?_
  refine L_u (P_lnl is22 h) ?_
  intro v w h
  refine L_u (P_nei h) ?_
  intro v w h
  refine L_nil ?_
  refine E_n ?_
  refine C_cnd h (fun h => ?_) (fun h => ?_)
  · refine wp_seq ?_
    refine L_region ?_
    refine L_as ?_
    refine L_nil ?_
    refine E_n ?_
    refine C_ret ?_
    show bodyPost Try.prog Try.f13 (Rt Q) .ret _ _
    exact post_tmps (ts := [4]) (.inr rfl) rfl h
  · refine C_skip ?_
    refine E_n ?_
    refine wp_seq ?_
    refine wp_seq ?_
    refine L_region ?_
    refine L_as ?_
    refine L_nil ?_
    refine E_n ?_
    refine C_join (fun (k : M) (ρ : Nat → Value) => k) h (fun j1 J1 h => ?_) (fun ρ w h => ?_)
    · refine C_blk ?_
      refine C_lo (fun (l : Value → Value → Value → M) (ρ : Nat → Value) => l (ρ 0) (ρ 1) (ρ 5)) h (fun ρ w h => h) (fun nx self2 L2 ρ w h => ?_)
      unfold f13_b2 at h
      refine wp_seq ?_
      refine wp_seq ?_
      refine L_region ?_
      refine L_mv ?_
      refine L_mv ?_
      refine L_u (P_lnl is22 h) ?_
      intro v w h
      refine L_u (P_lt h) ?_
      intro v w h
      refine L_nil ?_
      refine E_n ?_
      refine C_cnd h (fun h => ?_) (fun h => ?_)
      · refine C_skip ?_
        refine E_n ?_
        refine wp_seq ?_
        refine C_blk ?_
        refine wp_seq ?_
        refine D_region (by decide +kernel) 10 rfl ?_
        replace h := dr_e h
        refine G_p 0 rfl (by decide +kernel) (Y_mv h) ?_
        intro v h
        refine G_p 1 rfl (by decide +kernel) (Y_mv h) ?_
        intro v h
        refine G_p 2 rfl (by decide +kernel) (Y_ia se22 h) ?_
        intro v h
        refine G_r _ 3 rfl (by decide +kernel) (R_ld sc33 h) ?_
        intro v h
        refine G_p 4 rfl (by decide +kernel) (Y_mv h) ?_
        intro v h
        refine G_p 5 rfl (by decide +kernel) (Y_mv h) ?_
        intro v h
        refine G_p 6 rfl (by decide +kernel) (Y_ia se22 h) ?_
        intro v h
        refine G_r _ 7 rfl (by decide +kernel) (R_ld sc33 h) ?_
        intro v h
        refine G_e 8 rfl (by decide +kernel) (N_cl Try.func11 rfl nn11 (fun w Q h => s11 _ _ w Q h) h ?_)
        intro v w h
        refine ⟨keepF_dep [7] (by decide +kernel) rfl (keepF_dep [3] (by decide +kernel) rfl keepF_nil), ?_⟩
        refine G_p 9 rfl (by decide +kernel) (Y_nt h) ?_
        intro v h
        refine G_done (by decide +kernel) ?_
        refine E_n ?_
        refine C_cnd h (fun h => ?_) (fun h => ?_)
        · refine wp_seq ?_
          refine L_region ?_
          refine L_as ?_
          refine L_nil ?_
          refine E_n ?_
          refine C_ret ?_
          show bodyPost Try.prog Try.f13 (Rt Q) .ret _ _
          exact post_tmps (ts := [4]) (.inr rfl) rfl h
        · refine C_skip ?_
          refine B_n ?_
          refine E_n ?_
          refine L_region ?_
          refine L_mv ?_
          refine L_u (P_ad h) ?_
          intro v w h
          refine L_as ?_
          refine L_nil ?_
          refine E_n ?_
          exact L2 _ _ h
      · refine C_exit ?_
        refine E_x ?_
        refine E_x ?_
        refine B_x ?_
        exact J1 _ _ h
    · unfold f13_j1 at h
      refine E_n ?_
      refine wp_seq ?_
      refine L_region ?_
      refine L_as ?_
      refine L_nil ?_
      refine E_n ?_
      refine C_ret ?_
      show bodyPost Try.prog Try.f13 (Rt Q) .ret _ _
      exact post_tmps (ts := [4]) (.inr rfl) rfl h

/- factotum/factotumref31.Has -/
def f31_b2 (j1 : M) (self2 : Value → Value → Value → M) (t0_1 t1_1 t5 : Value) : M :=
  lnl t0_1 fun t8 =>
  lt .i64 t5 t8 fun t9 =>
  cnd t9 (
    ia 1 t0_1 t5 fun t14 =>
    ld t14 fun t15 =>
    cl (f11 t15 t1_1) fun t17 =>
    cnd t17 (
      rt (.bool true)
      ) (
      ad .i64 t5 (.int .i64 1) fun t11 =>
      self2 t0_1 t1_1 t11
      )
    ) (
    j1
    )
def f31_j1 : M :=
  rt (.bool false)
def f31 (t0 t1 : Value) : M :=
  jn (fun (j1 : M) =>
    lo (fun _ _ _ => bot) (f31_b2 j1) (fun l => l t0 t1 (.int .i64 0))
    ) (f31_j1)
theorem s31 (t0 t1 : Value) (w : World) (Q : Value → World → Prop) (h : f31 t0 t1 w Q) : Calls Try.prog 31 #[t0, t1] w (Rt Q) := by
  refine calls_of (l := [t0, t1]) Try.func31 rfl Try.ntmps31 (Nat.le_of_ble_eq_true rfl) ?_
  unfold f31 at h
  refine wp_seq ?_
  refine L_region ?_
  refine L_as ?_
  refine L_nil ?_
  refine E_n ?_
  refine wp_seq ?_
  refine wp_seq ?_
  refine L_region ?_
  refine L_as ?_
  refine L_nil ?_
  refine E_n ?_
  refine C_join (fun (k : M) (ρ : Nat → Value) => k) h (fun j1 J1 h => ?_) (fun ρ w h => ?_)
  · refine C_blk ?_
    refine C_lo (fun (l : Value → Value → Value → M) (ρ : Nat → Value) => l (ρ 0) (ρ 1) (ρ 5)) h (fun ρ w h => h) (fun nx self2 L2 ρ w h => ?_)
    unfold f31_b2 at h
    refine wp_seq ?_
    refine wp_seq ?_
    refine L_region ?_
    refine L_mv ?_
    refine L_mv ?_
    refine L_u (P_lnl is22 h) ?_
    intro v w h
    refine L_u (P_lt h) ?_
    intro v w h
    refine L_nil ?_
    refine E_n ?_
    refine C_cnd h (fun h => ?_) (fun h => ?_)
    · refine C_skip ?_
      refine E_n ?_
      refine wp_seq ?_
      refine C_blk ?_
      refine wp_seq ?_
      refine L_region ?_
      refine L_mv ?_
      refine L_mv ?_
      refine L_u (P_ia se22 h) ?_
      intro v w h
      refine L_u (P_ld sc33 h) ?_
      intro v w h
      refine L_mv ?_
      refine L_u (N_cl Try.func11 rfl nn11 (fun w Q h => s11 _ _ w Q h) h) ?_
      intro v w h
      refine L_nil ?_
      refine E_n ?_
      refine C_cnd h (fun h => ?_) (fun h => ?_)
      · refine wp_seq ?_
        refine L_region ?_
        refine L_as ?_
        refine L_nil ?_
        refine E_n ?_
        refine C_ret ?_
        show bodyPost Try.prog Try.f31 (Rt Q) .ret _ _
        exact post_tmps (ts := [4]) (.inr rfl) rfl h
      · refine C_skip ?_
        refine B_n ?_
        refine E_n ?_
        refine L_region ?_
        refine L_mv ?_
        refine L_u (P_ad h) ?_
        intro v w h
        refine L_as ?_
        refine L_nil ?_
        refine E_n ?_
        exact L2 _ _ h
    · refine C_exit ?_
      refine E_x ?_
      refine E_x ?_
      refine B_x ?_
      exact J1 _ _ h
  · unfold f31_j1 at h
    refine E_n ?_
    refine wp_seq ?_
    refine L_region ?_
    refine L_as ?_
    refine L_nil ?_
    refine E_n ?_
    refine C_ret ?_
    show bodyPost Try.prog Try.f31 (Rt Q) .ret _ _
    exact post_tmps (ts := [4]) (.inr rfl) rfl h

/- factotum/factotumref31.Once -/
def f15_j3 (self2 : Value → Value → Value → M) (t0_2 t3_1 t4_1 : Value) : M :=
  ad .i64 t4_1 (.int .i64 1) fun t10 =>
  self2 t0_2 t3_1 t10
def f15_b2 (j1 : Value → M) (self2 : Value → Value → Value → M) (t0_1 t3 t4 : Value) : M :=
  lnl t0_1 fun t7 =>
  lt .i64 t4 t7 fun t8 =>
  cnd t8 (
    ia 1 t0_1 t4 fun t14 =>
    ld t14 fun t15 =>
    cl (f31 t3 t15) fun t16 =>
    nt t16 fun t17 =>
    jn (fun (j3 : Value → Value → Value → M) =>
      cnd t17 (
        ia 1 t0_1 t4 fun t21 =>
        ld t21 fun t22 =>
        sm Try.prog (Instr.buildSlice 22 1 #[(0, t22)]) fun t23 =>
        sm Try.prog (Builtin.append_ #[22, 22] 22 #[t3, t23]) fun t24 =>
        j3 t0_1 t24 t4
        ) (
        j3 t0_1 t3 t4
        )
      ) (f15_j3 self2)
    ) (
    j1 t3
    )
def f15_j1 (t3_2 : Value) : M :=
  rt t3_2
def f15 (t0 : Value) : M :=
  jn (fun (j1 : Value → M) =>
    lo (fun _ _ _ => bot) (f15_b2 j1) (fun l => l t0 (.slice none 0 0) (.int .i64 0))
    ) (f15_j1)
theorem s15 (t0 : Value) (w : World) (Q : Value → World → Prop) (h : f15 t0 w Q) : Calls Try.prog 15 #[t0] w (Rt Q) := by
  refine calls_of (l := [t0]) Try.func15 rfl Try.ntmps15 (Nat.le_of_ble_eq_true rfl) ?_
  unfold f15 at h
  refine wp_seq ?_
  refine L_region ?_
  refine L_as ?_
  refine L_nil ?_
  refine E_n ?_
  refine wp_seq ?_
  refine L_region ?_
  refine L_as ?_
  refine L_nil ?_
  refine E_n ?_
  refine wp_seq ?_
  refine wp_seq ?_
  refine L_region ?_
  refine L_as ?_
  refine L_nil ?_
  refine E_n ?_
  refine C_join (fun (k : Value → M) (ρ : Nat → Value) => k (ρ 3)) h (fun j1 J1 h => ?_) (fun ρ w h => ?_)
  · refine C_blk ?_
    refine C_lo (fun (l : Value → Value → Value → M) (ρ : Nat → Value) => l (ρ 0) (ρ 3) (ρ 4)) h (fun ρ w h => h) (fun nx self2 L2 ρ w h => ?_)
    unfold f15_b2 at h
    refine wp_seq ?_
    refine wp_seq ?_
    refine L_region ?_
    refine L_mv ?_
    refine L_mv ?_
    refine L_u (P_lnl is22 h) ?_
    intro v w h
    refine L_u (P_lt h) ?_
    intro v w h
    refine L_nil ?_
    refine E_n ?_
    refine C_cnd h (fun h => ?_) (fun h => ?_)
    · refine C_skip ?_
      refine E_n ?_
      refine wp_seq ?_
      refine C_blk ?_
      refine wp_seq ?_
      refine L_region ?_
      refine L_mv ?_
      refine L_mv ?_
      refine L_mv ?_
      refine L_u (P_ia se22 h) ?_
      intro v w h
      refine L_u (P_ld sc33 h) ?_
      intro v w h
      refine L_u (N_cl Try.func31 rfl nn31 (fun w Q h => s31 _ _ w Q h) h) ?_
      intro v w h
      refine L_u (P_nt h) ?_
      intro v w h
      refine L_nil ?_
      refine E_n ?_
      refine C_join (fun (k : Value → Value → Value → M) (ρ : Nat → Value) => k (ρ 0) (ρ 3) (ρ 4)) h (fun j3 J3 h => ?_) (fun ρ w h => ?_)
      · refine C_cnd h (fun h => ?_) (fun h => ?_)
        · refine L_region ?_
          refine L_mv ?_
          refine L_mv ?_
          refine L_mv ?_
          refine L_u (P_ia se22 h) ?_
          intro v w h
          refine L_u (P_ld sc33 h) ?_
          intro v w h
          refine L_u (N_bsl h) ?_
          intro v w h
          refine L_u (N_bi rfl h) ?_
          intro v w h
          refine L_as ?_
          refine L_nil ?_
          exact J3 _ _ h
        · refine C_skip ?_
          exact J3 _ _ h
      · unfold f15_j3 at h
        refine B_n ?_
        refine E_n ?_
        refine L_region ?_
        refine L_mv ?_
        refine L_u (P_ad h) ?_
        intro v w h
        refine L_as ?_
        refine L_nil ?_
        refine E_n ?_
        exact L2 _ _ h
    · refine C_exit ?_
      refine E_x ?_
      refine E_x ?_
      refine B_x ?_
      exact J1 _ _ h
  · unfold f15_j1 at h
    refine E_n ?_
    refine wp_seq ?_
    refine L_region ?_
    refine L_mv ?_
    refine L_as ?_
    refine L_nil ?_
    refine E_n ?_
    refine C_ret ?_
    show bodyPost Try.prog Try.f15 (Rt Q) .ret _ _
    exact post_tmps (ts := [2]) (.inr rfl) rfl h

/- factotum/relate.keep -/
def f32_j3 (self2 : Value → Value → Value → Value → Value → M) (t1_2 t5_1 t8_1 t9_2 t10_1 : Value) : M :=
  ad .i64 t10_1 (.int .i64 1) fun t22 =>
  self2 t1_2 t5_1 t8_1 t9_2 t22
def f32_b2 (j1 : Value → M) (self2 : Value → Value → Value → Value → Value → M) (t1_1 t5 t8 t9_1 t10 : Value) : M :=
  lt .i64 t10 t9_1 fun t11 =>
  cnd t11 (
    ia 1 t8 t10 fun t12 =>
    ld t12 fun t13 =>
    cf Try.prog t1_1 #[t13] fun t16 =>
    jn (fun (j3 : Value → Value → Value → Value → Value → M) =>
      cnd t16 (
        cl (f30 t13) fun t19 =>
        sm Try.prog (Instr.buildSlice 22 1 #[(0, t19)]) fun t20 =>
        sm Try.prog (Builtin.append_ #[22, 22] 22 #[t5, t20]) fun t21 =>
        j3 t1_1 t21 t8 t9_1 t10
        ) (
        j3 t1_1 t5 t8 t9_1 t10
        )
      ) (f32_j3 self2)
    ) (
    j1 t5
    )
def f32_j1 (t5_2 : Value) : M :=
  rt t5_2
def f32 (t0 t1 : Value) : M :=
  lnl t0 fun t9 =>
  jn (fun (j1 : Value → M) =>
    lo (fun _ _ _ _ _ => bot) (f32_b2 j1) (fun l => l t1 (.slice none 0 0) t0 t9 (.int .i64 0))
    ) (f32_j1)
theorem s32 (t0 t1 : Value) (w : World) (Q : Value → World → Prop) (h : f32 t0 t1 w Q) : Calls Try.prog 32 #[t0, t1] w (Rt Q) := by
  refine calls_of (l := [t0, t1]) Try.func32 rfl Try.ntmps32 (Nat.le_of_ble_eq_true rfl) ?_
  unfold f32 at h
  refine wp_seq ?_
  refine L_region ?_
  refine L_as ?_
  refine L_nil ?_
  refine E_n ?_
  refine wp_seq ?_
  refine L_region ?_
  refine L_as ?_
  refine L_nil ?_
  refine E_n ?_
  refine wp_seq ?_
  refine wp_seq ?_
  refine L_region ?_
  refine L_mv ?_
  refine L_u (P_lnl is22 h) ?_
  intro v w h
  refine L_mv ?_
  refine L_nil ?_
  refine E_n ?_
  refine C_join (fun (k : Value → M) (ρ : Nat → Value) => k (ρ 5)) h (fun j1 J1 h => ?_) (fun ρ w h => ?_)
  · refine C_blk ?_
    refine C_lo (fun (l : Value → Value → Value → Value → Value → M) (ρ : Nat → Value) => l (ρ 1) (ρ 5) (ρ 8) (ρ 9) (ρ 10)) h (fun ρ w h => h) (fun nx self2 L2 ρ w h => ?_)
    unfold f32_b2 at h
    refine wp_seq ?_
    refine L_region ?_
    refine L_u (P_lt h) ?_
    intro v w h
    refine L_nil ?_
    refine E_n ?_
    refine wp_seq ?_
    refine C_cnd h (fun h => ?_) (fun h => ?_)
    · refine C_skip ?_
      refine E_n ?_
      refine wp_seq ?_
      refine C_blk ?_
      refine wp_seq ?_
      refine L_region ?_
      refine L_u (P_ia se22 h) ?_
      intro v w h
      refine L_u (P_ld sc33 h) ?_
      intro v w h
      refine L_as ?_
      refine L_nil ?_
      refine E_n ?_
      refine wp_seq ?_
      refine L_region ?_
      refine L_mv ?_
      refine L_mv ?_
      refine L_u (N_cf h) ?_
      intro v w h
      refine L_nil ?_
      refine E_n ?_
      refine C_join (fun (k : Value → Value → Value → Value → Value → M) (ρ : Nat → Value) => k (ρ 1) (ρ 5) (ρ 8) (ρ 9) (ρ 10)) h (fun j3 J3 h => ?_) (fun ρ w h => ?_)
      · refine C_cnd h (fun h => ?_) (fun h => ?_)
        · refine L_region ?_
          refine L_mv ?_
          refine L_mv ?_
          refine L_u (N_cl Try.func30 rfl nn30 (fun w Q h => s30 _ w Q h) h) ?_
          intro v w h
          refine L_u (N_bsl h) ?_
          intro v w h
          refine L_u (N_bi rfl h) ?_
          intro v w h
          refine L_as ?_
          refine L_nil ?_
          exact J3 _ _ h
        · refine C_skip ?_
          exact J3 _ _ h
      · unfold f32_j3 at h
        refine B_n ?_
        refine E_n ?_
        refine L_region ?_
        refine L_u (P_ad h) ?_
        intro v w h
        refine L_mv ?_
        refine L_nil ?_
        refine E_n ?_
        exact L2 _ _ h
    · refine C_exit ?_
      refine E_x ?_
      refine E_x ?_
      refine B_x ?_
      exact J1 _ _ h
  · unfold f32_j1 at h
    refine E_n ?_
    refine wp_seq ?_
    refine L_region ?_
    refine L_mv ?_
    refine L_as ?_
    refine L_nil ?_
    refine E_n ?_
    refine C_ret ?_
    show bodyPost Try.prog Try.f32 (Rt Q) .ret _ _
    exact post_tmps (ts := [4]) (.inr rfl) rfl h

/- factotum/relate.Minus$1 -/
def f33 (t0 t1 : Value) : M :=
  ld t1 fun t4 =>
  cl (f29 t4 t0) fun t6 =>
  nt t6 fun t7 =>
  rt t7
theorem s33 (t0 t1 : Value) (w : World) (Q : Value → World → Prop) (h : f33 t0 t1 w Q) : Calls Try.prog 33 #[t0, t1] w (Rt Q) := by
  refine calls_of (l := [t0, t1]) Try.func33 rfl Try.ntmps33 (Nat.le_of_ble_eq_true rfl) ?_
  unfold f33 at h
  refine wp_seq ?_
  refine L_region ?_
  refine L_as ?_
  refine L_nil ?_
  refine E_n ?_
  refine wp_seq ?_
  refine L_region ?_
  refine L_u (P_ld sc22 h) ?_
  intro v w h
  refine L_mv ?_
  refine L_u (N_cl Try.func29 rfl nn29 (fun w Q h => s29 _ _ w Q h) h) ?_
  intro v w h
  refine L_u (P_nt h) ?_
  intro v w h
  refine L_as ?_
  refine L_nil ?_
  refine E_n ?_
  refine C_ret ?_
  show bodyPost Try.prog Try.f33 (Rt Q) .ret _ _
  exact post_tmps (ts := [3]) (.inr rfl) rfl h

/- factotum/relate.Minus -/
def f16 (t0 t1 : Value) : M :=
  bx 22 t1 fun t3 =>
  idv (.func (.func 33) #[] #[t3]) fun t6 =>
  cl (f32 t0 t6) fun t7 =>
  rt t7
theorem s16 (t0 t1 : Value) (w : World) (Q : Value → World → Prop) (h : f16 t0 t1 w Q) : Calls Try.prog 16 #[t0, t1] w (Rt Q) := by
  refine calls_of (l := [t0, t1]) Try.func16 rfl Try.ntmps16 (Nat.le_of_ble_eq_true rfl) ?_
  unfold f16 at h
  refine wp_seq ?_
  refine L_region ?_
  refine L_u (P_bx h) ?_
  intro v w h
  refine L_as ?_
  refine L_nil ?_
  refine E_n ?_
  refine wp_seq ?_
  refine L_region ?_
  refine L_mv ?_
  refine L_u (N_mf h) ?_
  intro v w h
  refine L_u (N_cl Try.func32 rfl nn32 (fun w Q h => s32 _ _ w Q h) h) ?_
  intro v w h
  refine L_as ?_
  refine L_nil ?_
  refine E_n ?_
  refine C_ret ?_
  show bodyPost Try.prog Try.f16 (Rt Q) .ret _ _
  exact post_tmps (ts := [4]) (.inr rfl) rfl h

/- factotum/factotumref31.Minus -/
def f17_j3 (self2 : Value → Value → Value → Value → M) (t0_2 t1_2 t5_1 t6_1 : Value) : M :=
  ad .i64 t6_1 (.int .i64 1) fun t12 =>
  self2 t0_2 t1_2 t5_1 t12
def f17_b2 (j1 : Value → M) (self2 : Value → Value → Value → Value → M) (t0_1 t1_1 t5 t6 : Value) : M :=
  lnl t0_1 fun t9 =>
  lt .i64 t6 t9 fun t10 =>
  cnd t10 (
    ia 1 t0_1 t6 fun t16 =>
    ld t16 fun t17 =>
    cl (f31 t1_1 t17) fun t18 =>
    nt t18 fun t19 =>
    jn (fun (j3 : Value → Value → Value → Value → M) =>
      cnd t19 (
        ia 1 t0_1 t6 fun t23 =>
        ld t23 fun t24 =>
        sm Try.prog (Instr.buildSlice 22 1 #[(0, t24)]) fun t25 =>
        sm Try.prog (Builtin.append_ #[22, 22] 22 #[t5, t25]) fun t26 =>
        j3 t0_1 t1_1 t26 t6
        ) (
        j3 t0_1 t1_1 t5 t6
        )
      ) (f17_j3 self2)
    ) (
    j1 t5
    )
def f17_j1 (t5_2 : Value) : M :=
  rt t5_2
def f17 (t0 t1 : Value) : M :=
  jn (fun (j1 : Value → M) =>
    lo (fun _ _ _ _ => bot) (f17_b2 j1) (fun l => l t0 t1 (.slice none 0 0) (.int .i64 0))
    ) (f17_j1)
theorem s17 (t0 t1 : Value) (w : World) (Q : Value → World → Prop) (h : f17 t0 t1 w Q) : Calls Try.prog 17 #[t0, t1] w (Rt Q) := by
  refine calls_of (l := [t0, t1]) Try.func17 rfl Try.ntmps17 (Nat.le_of_ble_eq_true rfl) ?_
  unfold f17 at h
  refine wp_seq ?_
  refine L_region ?_
  refine L_as ?_
  refine L_nil ?_
  refine E_n ?_
  refine wp_seq ?_
  refine L_region ?_
  refine L_as ?_
  refine L_nil ?_
  refine E_n ?_
  refine wp_seq ?_
  refine wp_seq ?_
  refine L_region ?_
  refine L_as ?_
  refine L_nil ?_
  refine E_n ?_
  refine C_join (fun (k : Value → M) (ρ : Nat → Value) => k (ρ 5)) h (fun j1 J1 h => ?_) (fun ρ w h => ?_)
  · refine C_blk ?_
    refine C_lo (fun (l : Value → Value → Value → Value → M) (ρ : Nat → Value) => l (ρ 0) (ρ 1) (ρ 5) (ρ 6)) h (fun ρ w h => h) (fun nx self2 L2 ρ w h => ?_)
    unfold f17_b2 at h
    refine wp_seq ?_
    refine wp_seq ?_
    refine L_region ?_
    refine L_mv ?_
    refine L_mv ?_
    refine L_u (P_lnl is22 h) ?_
    intro v w h
    refine L_u (P_lt h) ?_
    intro v w h
    refine L_nil ?_
    refine E_n ?_
    refine C_cnd h (fun h => ?_) (fun h => ?_)
    · refine C_skip ?_
      refine E_n ?_
      refine wp_seq ?_
      refine C_blk ?_
      refine wp_seq ?_
      refine L_region ?_
      refine L_mv ?_
      refine L_mv ?_
      refine L_mv ?_
      refine L_u (P_ia se22 h) ?_
      intro v w h
      refine L_u (P_ld sc33 h) ?_
      intro v w h
      refine L_u (N_cl Try.func31 rfl nn31 (fun w Q h => s31 _ _ w Q h) h) ?_
      intro v w h
      refine L_u (P_nt h) ?_
      intro v w h
      refine L_nil ?_
      refine E_n ?_
      refine C_join (fun (k : Value → Value → Value → Value → M) (ρ : Nat → Value) => k (ρ 0) (ρ 1) (ρ 5) (ρ 6)) h (fun j3 J3 h => ?_) (fun ρ w h => ?_)
      · refine C_cnd h (fun h => ?_) (fun h => ?_)
        · refine L_region ?_
          refine L_mv ?_
          refine L_mv ?_
          refine L_mv ?_
          refine L_u (P_ia se22 h) ?_
          intro v w h
          refine L_u (P_ld sc33 h) ?_
          intro v w h
          refine L_u (N_bsl h) ?_
          intro v w h
          refine L_u (N_bi rfl h) ?_
          intro v w h
          refine L_as ?_
          refine L_nil ?_
          exact J3 _ _ h
        · refine C_skip ?_
          exact J3 _ _ h
      · unfold f17_j3 at h
        refine B_n ?_
        refine E_n ?_
        refine L_region ?_
        refine L_mv ?_
        refine L_u (P_ad h) ?_
        intro v w h
        refine L_as ?_
        refine L_nil ?_
        refine E_n ?_
        exact L2 _ _ h
    · refine C_exit ?_
      refine E_x ?_
      refine E_x ?_
      refine B_x ?_
      exact J1 _ _ h
  · unfold f17_j1 at h
    refine E_n ?_
    refine wp_seq ?_
    refine L_region ?_
    refine L_mv ?_
    refine L_as ?_
    refine L_nil ?_
    refine E_n ?_
    refine C_ret ?_
    show bodyPost Try.prog Try.f17 (Rt Q) .ret _ _
    exact post_tmps (ts := [4]) (.inr rfl) rfl h

/- factotum/factotumlaw31.RelateTwo -/
def f4 (t0 t1 t2 : Value) : M :=
  bx 23 t2 fun t5 =>
  cl (f8) fun t11 =>
  nt t11 fun t12 =>
  cnd t12 (
    rt (.bool false)
    ) (
    cl (f9 t0) fun t14 =>
    cl (f9 t1) fun t16 =>
    iaa 2 1 t5 (.int .i64 0) fun t20 =>
    ld t20 fun t21 =>
    iaa 2 1 t5 (.int .i64 1) fun t22 =>
    ld t22 fun t23 =>
    cl (f10 t14 t16 t21 t23) fun t24 =>
    ex 0 t24 fun t25 =>
    ex 1 t24 fun t26 =>
    iaa 2 1 t5 (.int .i64 0) fun t30 =>
    ld t30 fun t31 =>
    iaa 2 1 t5 (.int .i64 1) fun t32 =>
    ld t32 fun t33 =>
    cl (f12 t14 t16 t31 t33) fun t34 =>
    ex 0 t34 fun t35 =>
    ex 1 t34 fun t36 =>
    eqi .i64 t26 t36 fun t39 =>
    gd t39 true (idv t25) fun t41 =>
    gd t39 true (idv t35) fun t42 =>
    gd t39 true (cl (f13 t41 t42)) fun t43 =>
    pk t39 t43 (.bool false) fun t44 =>
    gd t44 true (idv t14) fun t46 =>
    gd t44 true (cl (f14 t46)) fun t47 =>
    gd t44 true (idv t14) fun t48 =>
    gd t44 true (cl (f15 t48)) fun t49 =>
    gd t44 true (cl (f13 t47 t49)) fun t50 =>
    pk t44 t50 (.bool false) fun t51 =>
    gd t51 true (idv t14) fun t53 =>
    gd t51 true (idv t16) fun t54 =>
    gd t51 true (cl (f16 t53 t54)) fun t55 =>
    gd t51 true (idv t14) fun t56 =>
    gd t51 true (idv t16) fun t57 =>
    gd t51 true (cl (f17 t56 t57)) fun t58 =>
    gd t51 true (cl (f13 t55 t58)) fun t59 =>
    pk t51 t59 (.bool false) fun t60 =>
    rt t60
    )
theorem s4 (t0 t1 t2 : Value) (w : World) (Q : Value → World → Prop) (h : f4 t0 t1 t2 w Q) : Calls Try.prog 4 #[t0, t1, t2] w (Rt Q) := by
  refine calls_of (l := [t0, t1, t2]) Try.func4 rfl Try.ntmps4 (Nat.le_of_ble_eq_true rfl) ?_
  unfold f4 at h
  refine wp_seq ?_
  refine L_region ?_
  refine L_u (P_bx h) ?_
  intro v w h
  refine L_as ?_
  refine L_nil ?_
  refine E_n ?_
  refine wp_seq ?_
  refine wp_seq ?_
  refine L_region ?_
  refine L_u (N_cl Try.func8 rfl nn8 (fun w Q h => s8 w Q h) h) ?_
  intro v w h
  refine L_u (P_nt h) ?_
  intro v w h
  refine L_nil ?_
  refine E_n ?_
  refine C_cnd h (fun h => ?_) (fun h => ?_)
  · refine wp_seq ?_
    refine L_region ?_
    refine L_as ?_
    refine L_nil ?_
    refine E_n ?_
    refine C_ret ?_
    show bodyPost Try.prog Try.f4 (Rt Q) .ret _ _
    exact post_tmps (ts := [6]) (.inr rfl) rfl h
  · refine C_skip ?_
    refine E_n ?_
    refine wp_seq ?_
    refine L_region ?_
    refine L_mv ?_
    refine L_u (N_cl Try.func9 rfl nn9 (fun w Q h => s9 _ w Q h) h) ?_
    intro v w h
    refine L_mv ?_
    refine L_u (N_cl Try.func9 rfl nn9 (fun w Q h => s9 _ w Q h) h) ?_
    intro v w h
    refine L_as ?_
    refine L_as ?_
    refine L_nil ?_
    refine E_n ?_
    refine wp_seq ?_
    refine L_region ?_
    refine L_mv ?_
    refine L_mv ?_
    refine L_u (P_iaa ae23 h) ?_
    intro v w h
    refine L_u (P_ld sc3 h) ?_
    intro v w h
    refine L_u (P_iaa ae23 h) ?_
    intro v w h
    refine L_u (P_ld sc3 h) ?_
    intro v w h
    refine L_u (N_cl Try.func10 rfl nn10 (fun w Q h => s10 _ _ _ _ w Q h) h) ?_
    intro v w h
    refine L_mv ?_
    refine L_u (P_ex h) ?_
    intro v w h
    refine L_u (P_ex h) ?_
    intro v w h
    refine L_as ?_
    refine L_as ?_
    refine L_nil ?_
    refine E_n ?_
    refine wp_seq ?_
    refine L_region ?_
    refine L_mv ?_
    refine L_mv ?_
    refine L_u (P_iaa ae23 h) ?_
    intro v w h
    refine L_u (P_ld sc3 h) ?_
    intro v w h
    refine L_u (P_iaa ae23 h) ?_
    intro v w h
    refine L_u (P_ld sc3 h) ?_
    intro v w h
    refine L_u (N_cl Try.func12 rfl nn12 (fun w Q h => s12 _ _ _ _ w Q h) h) ?_
    intro v w h
    refine L_mv ?_
    refine L_u (P_ex h) ?_
    intro v w h
    refine L_u (P_ex h) ?_
    intro v w h
    refine L_as ?_
    refine L_as ?_
    refine L_nil ?_
    refine E_n ?_
    refine wp_seq ?_
    refine L_region ?_
    refine L_mv ?_
    refine L_mv ?_
    refine L_u (P_eqi h) ?_
    intro v w h
    refine L_mv ?_
    refine L_g (t := 40) h rfl rfl (fun c h => P_mv h c) ?_
    intro v w h
    refine L_g (t := 40) h rfl rfl (fun c h => P_mv h c) ?_
    intro v w h
    refine L_g (t := 40) h rfl rfl (fun c h => N_cl Try.func13 rfl nn13 (fun w Q h => s13 _ _ w Q h) h c) ?_
    intro v w h
    refine L_u (P_pk h) ?_
    intro v w h
    refine L_mv ?_
    refine L_g (t := 45) h rfl rfl (fun c h => P_mv h c) ?_
    intro v w h
    refine L_g (t := 45) h rfl rfl (fun c h => N_cl Try.func14 rfl nn14 (fun w Q h => s14 _ w Q h) h c) ?_
    intro v w h
    refine L_g (t := 45) h rfl rfl (fun c h => P_mv h c) ?_
    intro v w h
    refine L_g (t := 45) h rfl rfl (fun c h => N_cl Try.func15 rfl nn15 (fun w Q h => s15 _ w Q h) h c) ?_
    intro v w h
    refine L_g (t := 45) h rfl rfl (fun c h => N_cl Try.func13 rfl nn13 (fun w Q h => s13 _ _ w Q h) h c) ?_
    intro v w h
    refine L_u (P_pk h) ?_
    intro v w h
    refine L_mv ?_
    refine L_g (t := 52) h rfl rfl (fun c h => P_mv h c) ?_
    intro v w h
    refine L_g (t := 52) h rfl rfl (fun c h => P_mv h c) ?_
    intro v w h
    refine L_g (t := 52) h rfl rfl (fun c h => N_cl Try.func16 rfl nn16 (fun w Q h => s16 _ _ w Q h) h c) ?_
    intro v w h
    refine L_g (t := 52) h rfl rfl (fun c h => P_mv h c) ?_
    intro v w h
    refine L_g (t := 52) h rfl rfl (fun c h => P_mv h c) ?_
    intro v w h
    refine L_g (t := 52) h rfl rfl (fun c h => N_cl Try.func17 rfl nn17 (fun w Q h => s17 _ _ w Q h) h c) ?_
    intro v w h
    refine L_g (t := 52) h rfl rfl (fun c h => N_cl Try.func13 rfl nn13 (fun w Q h => s13 _ _ w Q h) h c) ?_
    intro v w h
    refine L_u (P_pk h) ?_
    intro v w h
    refine L_as ?_
    refine L_nil ?_
    refine E_n ?_
    refine C_ret ?_
    show bodyPost Try.prog Try.f4 (Rt Q) .ret _ _
    exact post_tmps (ts := [6]) (.inr rfl) rfl h

/- slices.CompareFunc[[]factotum/api.Value,[]factotum/api.Value,factotum/api.Value,factotum/api.Value] -/
def f36_b2 (j1 : Value → Value → M) (self2 : Value → Value → Value → Value → Value → Value → M) (t0_1 t1_1 t2_1 t11 t12_1 t13 : Value) : M :=
  lt .i64 t13 t12_1 fun t14 =>
  cnd t14 (
    ia 3 t11 t13 fun t16 =>
    ldn 3 t16 fun t17 =>
    al 31 #[(.int .i64 0), (.int .i64 0), (.string ⟨#[]⟩)] fun t8 =>
    stn 3 t8 t17 <|
    lnl t1_1 fun t20 =>
    ge .i64 t13 t20 fun t21 =>
    cnd t21 (
      rt (.int .i64 1)
      ) (
      ia 3 t1_1 t13 fun t24 =>
      ldn 3 t24 fun t25 =>
      al 31 #[(.int .i64 0), (.int .i64 0), (.string ⟨#[]⟩)] fun t9 =>
      stn 3 t9 t25 <|
      ldn 3 t8 fun t27 =>
      ldn 3 t9 fun t28 =>
      cf Try.prog t2_1 #[t27, t28] fun t29 =>
      nei .i64 t29 (.int .i64 0) fun t31 =>
      cnd t31 (
        rt t29
        ) (
        ad .i64 t13 (.int .i64 1) fun t33 =>
        self2 t0_1 t1_1 t2_1 t11 t12_1 t33
        )
      )
    ) (
    j1 t0_1 t1_1
    )
def f36_j1 (t0_2 t1_2 : Value) : M :=
  lnl t0_2 fun t35 =>
  lnl t1_2 fun t37 =>
  lt .i64 t35 t37 fun t38 =>
  cnd t38 (
    rt (.int .i64 (-1))
    ) (
    rt (.int .i64 0)
    )
def f36 (t0 t1 t2 : Value) : M :=
  lnl t0 fun t12 =>
  jn (fun (j1 : Value → Value → M) =>
    lo (fun _ _ _ _ _ _ => bot) (f36_b2 j1) (fun l => l t0 t1 t2 t0 t12 (.int .i64 0))
    ) (f36_j1)
theorem s36 (t0 t1 t2 : Value) (w : World) (Q : Value → World → Prop) (h : f36 t0 t1 t2 w Q) : Calls Try.prog 36 #[t0, t1, t2] w (Rt Q) := by
  refine calls_of (l := [t0, t1, t2]) Try.func36 rfl Try.ntmps36 (Nat.le_of_ble_eq_true rfl) ?_
  unfold f36 at h
  refine wp_seq ?_
  refine L_region ?_
  refine L_as ?_
  refine L_nil ?_
  refine E_n ?_
  refine wp_seq ?_
  refine wp_seq ?_
  refine L_region ?_
  refine L_mv ?_
  refine L_u (P_lnl is32 h) ?_
  intro v w h
  refine L_mv ?_
  refine L_nil ?_
  refine E_n ?_
  refine C_join (fun (k : Value → Value → M) (ρ : Nat → Value) => k (ρ 0) (ρ 1)) h (fun j1 J1 h => ?_) (fun ρ w h => ?_)
  · refine C_blk ?_
    refine C_lo (fun (l : Value → Value → Value → Value → Value → Value → M) (ρ : Nat → Value) => l (ρ 0) (ρ 1) (ρ 2) (ρ 11) (ρ 12) (ρ 13)) h (fun ρ w h => h) (fun nx self2 L2 ρ w h => ?_)
    unfold f36_b2 at h
    refine wp_seq ?_
    refine L_region ?_
    refine L_u (P_lt h) ?_
    intro v w h
    refine L_nil ?_
    refine E_n ?_
    refine wp_seq ?_
    refine C_cnd h (fun h => ?_) (fun h => ?_)
    · refine C_skip ?_
      refine E_n ?_
      refine wp_seq ?_
      refine C_blk ?_
      refine wp_seq ?_
      refine L_region ?_
      refine L_mv ?_
      refine L_u (P_ia se32 h) ?_
      intro v w h
      refine L_u (P_ldn ag31 h) ?_
      intro v w h
      refine L_u (P_al ze31 rfl h) ?_
      intro v w h
      refine L_as ?_
      refine L_u (P_stn ag31 h) ?_
      intro w h
      refine L_nil ?_
      refine E_n ?_
      refine wp_seq ?_
      refine wp_seq ?_
      refine L_region ?_
      refine L_mv ?_
      refine L_mv ?_
      refine L_u (P_lnl is32 h) ?_
      intro v w h
      refine L_u (P_ge h) ?_
      intro v w h
      refine L_nil ?_
      refine E_n ?_
      refine C_cnd h (fun h => ?_) (fun h => ?_)
      · refine wp_seq ?_
        refine L_region ?_
        refine L_as ?_
        refine L_nil ?_
        refine E_n ?_
        refine C_ret ?_
        show bodyPost Try.prog Try.f36 (Rt Q) .ret _ _
        exact post_tmps (ts := [6]) (.inr rfl) rfl h
      · refine C_skip ?_
        refine E_n ?_
        refine wp_seq ?_
        refine L_region ?_
        refine L_mv ?_
        refine L_mv ?_
        refine L_u (P_ia se32 h) ?_
        intro v w h
        refine L_u (P_ldn ag31 h) ?_
        intro v w h
        refine L_u (P_al ze31 rfl h) ?_
        intro v w h
        refine L_u (P_stn ag31 h) ?_
        intro w h
        refine L_nil ?_
        refine E_n ?_
        refine wp_seq ?_
        refine L_region ?_
        refine L_mv ?_
        refine L_u (P_ldn ag31 h) ?_
        intro v w h
        refine L_u (P_ldn ag31 h) ?_
        intro v w h
        refine L_u (N_cf h) ?_
        intro v w h
        refine L_as ?_
        refine L_nil ?_
        refine E_n ?_
        refine wp_seq ?_
        refine L_region ?_
        refine L_mv ?_
        refine L_u (P_nei h) ?_
        intro v w h
        refine L_nil ?_
        refine E_n ?_
        refine C_cnd h (fun h => ?_) (fun h => ?_)
        · refine wp_seq ?_
          refine L_region ?_
          refine L_mv ?_
          refine L_as ?_
          refine L_nil ?_
          refine E_n ?_
          refine C_ret ?_
          show bodyPost Try.prog Try.f36 (Rt Q) .ret _ _
          exact post_tmps (ts := [6]) (.inr rfl) rfl h
        · refine C_skip ?_
          refine B_n ?_
          refine E_n ?_
          refine L_region ?_
          refine L_u (P_ad h) ?_
          intro v w h
          refine L_mv ?_
          refine L_nil ?_
          refine E_n ?_
          exact L2 _ _ h
    · refine C_exit ?_
      refine E_x ?_
      refine E_x ?_
      refine B_x ?_
      exact J1 _ _ h
  · unfold f36_j1 at h
    refine E_n ?_
    refine wp_seq ?_
    refine wp_seq ?_
    refine L_region ?_
    refine L_mv ?_
    refine L_u (P_lnl is32 h) ?_
    intro v w h
    refine L_mv ?_
    refine L_u (P_lnl is32 h) ?_
    intro v w h
    refine L_u (P_lt h) ?_
    intro v w h
    refine L_nil ?_
    refine E_n ?_
    refine C_cnd h (fun h => ?_) (fun h => ?_)
    · refine wp_seq ?_
      refine L_region ?_
      refine L_as ?_
      refine L_nil ?_
      refine E_n ?_
      refine C_ret ?_
      show bodyPost Try.prog Try.f36 (Rt Q) .ret _ _
      exact post_tmps (ts := [6]) (.inr rfl) rfl h
    · refine C_skip ?_
      refine E_n ?_
      refine wp_seq ?_
      refine L_region ?_
      refine L_as ?_
      refine L_nil ?_
      refine E_n ?_
      refine C_ret ?_
      show bodyPost Try.prog Try.f36 (Rt Q) .ret _ _
      exact post_tmps (ts := [6]) (.inr rfl) rfl h

/- cmp.Or[int] -/
def f48_b2 (j1 : Value → M) (self2 : Value → Value → Value → Value → M) (t3 t6 t7_1 t8 : Value) : M :=
  lt .i64 t8 t7_1 fun t9 =>
  cnd t9 (
    ia 1 t6 t8 fun t10 =>
    ld t10 fun t11 =>
    nei .i64 t11 t3 fun t14 =>
    cnd t14 (
      rt t11
      ) (
      ad .i64 t8 (.int .i64 1) fun t16 =>
      self2 t3 t6 t7_1 t16
      )
    ) (
    j1 t3
    )
def f48_j1 (t3_1 : Value) : M :=
  rt t3_1
def f48 (t0 : Value) : M :=
  lnl t0 fun t7 =>
  jn (fun (j1 : Value → M) =>
    lo (fun _ _ _ _ => bot) (f48_b2 j1) (fun l => l (.int .i64 0) t0 t7 (.int .i64 0))
    ) (f48_j1)
theorem s48 (t0 : Value) (w : World) (Q : Value → World → Prop) (h : f48 t0 w Q) : Calls Try.prog 48 #[t0] w (Rt Q) := by
  refine calls_of (l := [t0]) Try.func48 rfl Try.ntmps48 (Nat.le_of_ble_eq_true rfl) ?_
  unfold f48 at h
  refine wp_seq ?_
  refine L_region ?_
  refine L_as ?_
  refine L_nil ?_
  refine E_n ?_
  refine wp_seq ?_
  refine L_region ?_
  refine L_as ?_
  refine L_nil ?_
  refine E_n ?_
  refine wp_seq ?_
  refine wp_seq ?_
  refine L_region ?_
  refine L_mv ?_
  refine L_u (P_lnl is43 h) ?_
  intro v w h
  refine L_mv ?_
  refine L_nil ?_
  refine E_n ?_
  refine C_join (fun (k : Value → M) (ρ : Nat → Value) => k (ρ 3)) h (fun j1 J1 h => ?_) (fun ρ w h => ?_)
  · refine C_blk ?_
    refine C_lo (fun (l : Value → Value → Value → Value → M) (ρ : Nat → Value) => l (ρ 3) (ρ 6) (ρ 7) (ρ 8)) h (fun ρ w h => h) (fun nx self2 L2 ρ w h => ?_)
    unfold f48_b2 at h
    refine wp_seq ?_
    refine L_region ?_
    refine L_u (P_lt h) ?_
    intro v w h
    refine L_nil ?_
    refine E_n ?_
    refine wp_seq ?_
    refine C_cnd h (fun h => ?_) (fun h => ?_)
    · refine C_skip ?_
      refine E_n ?_
      refine wp_seq ?_
      refine C_blk ?_
      refine wp_seq ?_
      refine L_region ?_
      refine L_u (P_ia se43 h) ?_
      intro v w h
      refine L_u (P_ld sc3 h) ?_
      intro v w h
      refine L_as ?_
      refine L_nil ?_
      refine E_n ?_
      refine wp_seq ?_
      refine L_region ?_
      refine L_mv ?_
      refine L_mv ?_
      refine L_u (P_nei h) ?_
      intro v w h
      refine L_nil ?_
      refine E_n ?_
      refine C_cnd h (fun h => ?_) (fun h => ?_)
      · refine wp_seq ?_
        refine L_region ?_
        refine L_mv ?_
        refine L_as ?_
        refine L_nil ?_
        refine E_n ?_
        refine C_ret ?_
        show bodyPost Try.prog Try.f48 (Rt Q) .ret _ _
        exact post_tmps (ts := [2]) (.inr rfl) rfl h
      · refine C_skip ?_
        refine B_n ?_
        refine E_n ?_
        refine L_region ?_
        refine L_u (P_ad h) ?_
        intro v w h
        refine L_mv ?_
        refine L_nil ?_
        refine E_n ?_
        exact L2 _ _ h
    · refine C_exit ?_
      refine E_x ?_
      refine E_x ?_
      refine B_x ?_
      exact J1 _ _ h
  · unfold f48_j1 at h
    refine E_n ?_
    refine wp_seq ?_
    refine L_region ?_
    refine L_mv ?_
    refine L_as ?_
    refine L_nil ?_
    refine E_n ?_
    refine C_ret ?_
    show bodyPost Try.prog Try.f48 (Rt Q) .ret _ _
    exact post_tmps (ts := [2]) (.inr rfl) rfl h

/- cmp.isNaN[factotum/api.Kind] -/
def f55 (t0 : Value) : M :=
  nei .i64 t0 t0 fun t5 =>
  rt t5
theorem s55 (t0 : Value) (w : World) (Q : Value → World → Prop) (h : f55 t0 w Q) : Calls Try.prog 55 #[t0] w (Rt Q) := by
  refine calls_of (l := [t0]) Try.func55 rfl Try.ntmps55 (Nat.le_of_ble_eq_true rfl) ?_
  unfold f55 at h
  refine wp_seq ?_
  refine L_region ?_
  refine L_as ?_
  refine L_nil ?_
  refine E_n ?_
  refine wp_seq ?_
  refine L_region ?_
  refine L_mv ?_
  refine L_mv ?_
  refine L_u (P_nei h) ?_
  intro v w h
  refine L_as ?_
  refine L_nil ?_
  refine E_n ?_
  refine C_ret ?_
  show bodyPost Try.prog Try.f55 (Rt Q) .ret _ _
  exact post_tmps (ts := [2]) (.inr rfl) rfl h

/- cmp.Compare[factotum/api.Kind] -/
def f49 (t0 t1 : Value) : M :=
  cl (f55 t0) fun t8 =>
  cl (f55 t1) fun t10 =>
  cnd t8 (
    cnd t10 (
      rt (.int .i64 0)
      ) (
      rt (.int .i64 (-1))
      )
    ) (
    cnd t10 (
      rt (.int .i64 1)
      ) (
      lt .i64 t0 t1 fun t16 =>
      cnd t16 (
        rt (.int .i64 (-1))
        ) (
        gt .i64 t0 t1 fun t19 =>
        cnd t19 (
          rt (.int .i64 1)
          ) (
          rt (.int .i64 0)
          )
        )
      )
    )
theorem s49 (t0 t1 : Value) (w : World) (Q : Value → World → Prop) (h : f49 t0 t1 w Q) : Calls Try.prog 49 #[t0, t1] w (Rt Q) := by
  refine calls_of (l := [t0, t1]) Try.func49 rfl Try.ntmps49 (Nat.le_of_ble_eq_true rfl) ?_
  unfold f49 at h
  refine wp_seq ?_
  refine L_region ?_
  refine L_as ?_
  refine L_nil ?_
  refine E_n ?_
  refine wp_seq ?_
  refine L_region ?_
  refine L_mv ?_
  refine L_u (N_cl Try.func55 rfl nn55 (fun w Q h => s55 _ w Q h) h) ?_
  intro v w h
  refine L_as ?_
  refine L_nil ?_
  refine E_n ?_
  refine wp_seq ?_
  refine L_region ?_
  refine L_mv ?_
  refine L_u (N_cl Try.func55 rfl nn55 (fun w Q h => s55 _ w Q h) h) ?_
  intro v w h
  refine L_as ?_
  refine L_nil ?_
  refine E_n ?_
  refine wp_seq ?_
  refine wp_seq ?_
  refine L_region ?_
  refine L_mv ?_
  refine L_nil ?_
  refine E_n ?_
  refine C_cnd h (fun h => ?_) (fun h => ?_)
  · refine wp_seq ?_
    refine wp_seq ?_
    refine L_region ?_
    refine L_mv ?_
    refine L_nil ?_
    refine E_n ?_
    refine C_cnd h (fun h => ?_) (fun h => ?_)
    · refine wp_seq ?_
      refine L_region ?_
      refine L_as ?_
      refine L_nil ?_
      refine E_n ?_
      refine C_ret ?_
      show bodyPost Try.prog Try.f49 (Rt Q) .ret _ _
      exact post_tmps (ts := [4]) (.inr rfl) rfl h
    · refine C_skip ?_
      refine E_n ?_
      refine wp_seq ?_
      refine L_region ?_
      refine L_as ?_
      refine L_nil ?_
      refine E_n ?_
      refine C_ret ?_
      show bodyPost Try.prog Try.f49 (Rt Q) .ret _ _
      exact post_tmps (ts := [4]) (.inr rfl) rfl h
  · refine C_skip ?_
    refine E_n ?_
    refine wp_seq ?_
    refine wp_seq ?_
    refine L_region ?_
    refine L_mv ?_
    refine L_nil ?_
    refine E_n ?_
    refine C_cnd h (fun h => ?_) (fun h => ?_)
    · refine wp_seq ?_
      refine L_region ?_
      refine L_as ?_
      refine L_nil ?_
      refine E_n ?_
      refine C_ret ?_
      show bodyPost Try.prog Try.f49 (Rt Q) .ret _ _
      exact post_tmps (ts := [4]) (.inr rfl) rfl h
    · refine C_skip ?_
      refine E_n ?_
      refine wp_seq ?_
      refine wp_seq ?_
      refine L_region ?_
      refine L_mv ?_
      refine L_mv ?_
      refine L_u (P_lt h) ?_
      intro v w h
      refine L_nil ?_
      refine E_n ?_
      refine C_cnd h (fun h => ?_) (fun h => ?_)
      · refine wp_seq ?_
        refine L_region ?_
        refine L_as ?_
        refine L_nil ?_
        refine E_n ?_
        refine C_ret ?_
        show bodyPost Try.prog Try.f49 (Rt Q) .ret _ _
        exact post_tmps (ts := [4]) (.inr rfl) rfl h
      · refine C_skip ?_
        refine E_n ?_
        refine wp_seq ?_
        refine wp_seq ?_
        refine L_region ?_
        refine L_mv ?_
        refine L_mv ?_
        refine L_u (P_gt h) ?_
        intro v w h
        refine L_nil ?_
        refine E_n ?_
        refine C_cnd h (fun h => ?_) (fun h => ?_)
        · refine wp_seq ?_
          refine L_region ?_
          refine L_as ?_
          refine L_nil ?_
          refine E_n ?_
          refine C_ret ?_
          show bodyPost Try.prog Try.f49 (Rt Q) .ret _ _
          exact post_tmps (ts := [4]) (.inr rfl) rfl h
        · refine C_skip ?_
          refine E_n ?_
          refine wp_seq ?_
          refine L_region ?_
          refine L_as ?_
          refine L_nil ?_
          refine E_n ?_
          refine C_ret ?_
          show bodyPost Try.prog Try.f49 (Rt Q) .ret _ _
          exact post_tmps (ts := [4]) (.inr rfl) rfl h

/- cmp.isNaN[int64] -/
def f56 (t0 : Value) : M :=
  nei .i64 t0 t0 fun t5 =>
  rt t5
theorem s56 (t0 : Value) (w : World) (Q : Value → World → Prop) (h : f56 t0 w Q) : Calls Try.prog 56 #[t0] w (Rt Q) := by
  refine calls_of (l := [t0]) Try.func56 rfl Try.ntmps56 (Nat.le_of_ble_eq_true rfl) ?_
  unfold f56 at h
  refine wp_seq ?_
  refine L_region ?_
  refine L_as ?_
  refine L_nil ?_
  refine E_n ?_
  refine wp_seq ?_
  refine L_region ?_
  refine L_mv ?_
  refine L_mv ?_
  refine L_u (P_nei h) ?_
  intro v w h
  refine L_as ?_
  refine L_nil ?_
  refine E_n ?_
  refine C_ret ?_
  show bodyPost Try.prog Try.f56 (Rt Q) .ret _ _
  exact post_tmps (ts := [2]) (.inr rfl) rfl h

/- cmp.Compare[int64] -/
def f50 (t0 t1 : Value) : M :=
  cl (f56 t0) fun t8 =>
  cl (f56 t1) fun t10 =>
  cnd t8 (
    cnd t10 (
      rt (.int .i64 0)
      ) (
      rt (.int .i64 (-1))
      )
    ) (
    cnd t10 (
      rt (.int .i64 1)
      ) (
      lt .i64 t0 t1 fun t16 =>
      cnd t16 (
        rt (.int .i64 (-1))
        ) (
        gt .i64 t0 t1 fun t19 =>
        cnd t19 (
          rt (.int .i64 1)
          ) (
          rt (.int .i64 0)
          )
        )
      )
    )
theorem s50 (t0 t1 : Value) (w : World) (Q : Value → World → Prop) (h : f50 t0 t1 w Q) : Calls Try.prog 50 #[t0, t1] w (Rt Q) := by
  refine calls_of (l := [t0, t1]) Try.func50 rfl Try.ntmps50 (Nat.le_of_ble_eq_true rfl) ?_
  unfold f50 at h
  refine wp_seq ?_
  refine L_region ?_
  refine L_as ?_
  refine L_nil ?_
  refine E_n ?_
  refine wp_seq ?_
  refine L_region ?_
  refine L_mv ?_
  refine L_u (N_cl Try.func56 rfl nn56 (fun w Q h => s56 _ w Q h) h) ?_
  intro v w h
  refine L_as ?_
  refine L_nil ?_
  refine E_n ?_
  refine wp_seq ?_
  refine L_region ?_
  refine L_mv ?_
  refine L_u (N_cl Try.func56 rfl nn56 (fun w Q h => s56 _ w Q h) h) ?_
  intro v w h
  refine L_as ?_
  refine L_nil ?_
  refine E_n ?_
  refine wp_seq ?_
  refine wp_seq ?_
  refine L_region ?_
  refine L_mv ?_
  refine L_nil ?_
  refine E_n ?_
  refine C_cnd h (fun h => ?_) (fun h => ?_)
  · refine wp_seq ?_
    refine wp_seq ?_
    refine L_region ?_
    refine L_mv ?_
    refine L_nil ?_
    refine E_n ?_
    refine C_cnd h (fun h => ?_) (fun h => ?_)
    · refine wp_seq ?_
      refine L_region ?_
      refine L_as ?_
      refine L_nil ?_
      refine E_n ?_
      refine C_ret ?_
      show bodyPost Try.prog Try.f50 (Rt Q) .ret _ _
      exact post_tmps (ts := [4]) (.inr rfl) rfl h
    · refine C_skip ?_
      refine E_n ?_
      refine wp_seq ?_
      refine L_region ?_
      refine L_as ?_
      refine L_nil ?_
      refine E_n ?_
      refine C_ret ?_
      show bodyPost Try.prog Try.f50 (Rt Q) .ret _ _
      exact post_tmps (ts := [4]) (.inr rfl) rfl h
  · refine C_skip ?_
    refine E_n ?_
    refine wp_seq ?_
    refine wp_seq ?_
    refine L_region ?_
    refine L_mv ?_
    refine L_nil ?_
    refine E_n ?_
    refine C_cnd h (fun h => ?_) (fun h => ?_)
    · refine wp_seq ?_
      refine L_region ?_
      refine L_as ?_
      refine L_nil ?_
      refine E_n ?_
      refine C_ret ?_
      show bodyPost Try.prog Try.f50 (Rt Q) .ret _ _
      exact post_tmps (ts := [4]) (.inr rfl) rfl h
    · refine C_skip ?_
      refine E_n ?_
      refine wp_seq ?_
      refine wp_seq ?_
      refine L_region ?_
      refine L_mv ?_
      refine L_mv ?_
      refine L_u (P_lt h) ?_
      intro v w h
      refine L_nil ?_
      refine E_n ?_
      refine C_cnd h (fun h => ?_) (fun h => ?_)
      · refine wp_seq ?_
        refine L_region ?_
        refine L_as ?_
        refine L_nil ?_
        refine E_n ?_
        refine C_ret ?_
        show bodyPost Try.prog Try.f50 (Rt Q) .ret _ _
        exact post_tmps (ts := [4]) (.inr rfl) rfl h
      · refine C_skip ?_
        refine E_n ?_
        refine wp_seq ?_
        refine wp_seq ?_
        refine L_region ?_
        refine L_mv ?_
        refine L_mv ?_
        refine L_u (P_gt h) ?_
        intro v w h
        refine L_nil ?_
        refine E_n ?_
        refine C_cnd h (fun h => ?_) (fun h => ?_)
        · refine wp_seq ?_
          refine L_region ?_
          refine L_as ?_
          refine L_nil ?_
          refine E_n ?_
          refine C_ret ?_
          show bodyPost Try.prog Try.f50 (Rt Q) .ret _ _
          exact post_tmps (ts := [4]) (.inr rfl) rfl h
        · refine C_skip ?_
          refine E_n ?_
          refine wp_seq ?_
          refine L_region ?_
          refine L_as ?_
          refine L_nil ?_
          refine E_n ?_
          refine C_ret ?_
          show bodyPost Try.prog Try.f50 (Rt Q) .ret _ _
          exact post_tmps (ts := [4]) (.inr rfl) rfl h

/- cmp.isNaN[string] -/
def f57 (t0 : Value) : M :=
  nes t0 t0 fun t5 =>
  rt t5
theorem s57 (t0 : Value) (w : World) (Q : Value → World → Prop) (h : f57 t0 w Q) : Calls Try.prog 57 #[t0] w (Rt Q) := by
  refine calls_of (l := [t0]) Try.func57 rfl Try.ntmps57 (Nat.le_of_ble_eq_true rfl) ?_
  unfold f57 at h
  refine wp_seq ?_
  refine L_region ?_
  refine L_as ?_
  refine L_nil ?_
  refine E_n ?_
  refine wp_seq ?_
  refine L_region ?_
  refine L_mv ?_
  refine L_mv ?_
  refine L_u (P_nes h) ?_
  intro v w h
  refine L_as ?_
  refine L_nil ?_
  refine E_n ?_
  refine C_ret ?_
  show bodyPost Try.prog Try.f57 (Rt Q) .ret _ _
  exact post_tmps (ts := [2]) (.inr rfl) rfl h

/- cmp.Compare[string] -/
def f51 (t0 t1 : Value) : M :=
  cl (f57 t0) fun t8 =>
  cl (f57 t1) fun t10 =>
  cnd t8 (
    cnd t10 (
      rt (.int .i64 0)
      ) (
      rt (.int .i64 (-1))
      )
    ) (
    cnd t10 (
      rt (.int .i64 1)
      ) (
      lts t0 t1 fun t16 =>
      cnd t16 (
        rt (.int .i64 (-1))
        ) (
        gts t0 t1 fun t19 =>
        cnd t19 (
          rt (.int .i64 1)
          ) (
          rt (.int .i64 0)
          )
        )
      )
    )
theorem s51 (t0 t1 : Value) (w : World) (Q : Value → World → Prop) (h : f51 t0 t1 w Q) : Calls Try.prog 51 #[t0, t1] w (Rt Q) := by
  refine calls_of (l := [t0, t1]) Try.func51 rfl Try.ntmps51 (Nat.le_of_ble_eq_true rfl) ?_
  unfold f51 at h
  refine wp_seq ?_
  refine L_region ?_
  refine L_as ?_
  refine L_nil ?_
  refine E_n ?_
  refine wp_seq ?_
  refine L_region ?_
  refine L_mv ?_
  refine L_u (N_cl Try.func57 rfl nn57 (fun w Q h => s57 _ w Q h) h) ?_
  intro v w h
  refine L_as ?_
  refine L_nil ?_
  refine E_n ?_
  refine wp_seq ?_
  refine L_region ?_
  refine L_mv ?_
  refine L_u (N_cl Try.func57 rfl nn57 (fun w Q h => s57 _ w Q h) h) ?_
  intro v w h
  refine L_as ?_
  refine L_nil ?_
  refine E_n ?_
  refine wp_seq ?_
  refine wp_seq ?_
  refine L_region ?_
  refine L_mv ?_
  refine L_nil ?_
  refine E_n ?_
  refine C_cnd h (fun h => ?_) (fun h => ?_)
  · refine wp_seq ?_
    refine wp_seq ?_
    refine L_region ?_
    refine L_mv ?_
    refine L_nil ?_
    refine E_n ?_
    refine C_cnd h (fun h => ?_) (fun h => ?_)
    · refine wp_seq ?_
      refine L_region ?_
      refine L_as ?_
      refine L_nil ?_
      refine E_n ?_
      refine C_ret ?_
      show bodyPost Try.prog Try.f51 (Rt Q) .ret _ _
      exact post_tmps (ts := [4]) (.inr rfl) rfl h
    · refine C_skip ?_
      refine E_n ?_
      refine wp_seq ?_
      refine L_region ?_
      refine L_as ?_
      refine L_nil ?_
      refine E_n ?_
      refine C_ret ?_
      show bodyPost Try.prog Try.f51 (Rt Q) .ret _ _
      exact post_tmps (ts := [4]) (.inr rfl) rfl h
  · refine C_skip ?_
    refine E_n ?_
    refine wp_seq ?_
    refine wp_seq ?_
    refine L_region ?_
    refine L_mv ?_
    refine L_nil ?_
    refine E_n ?_
    refine C_cnd h (fun h => ?_) (fun h => ?_)
    · refine wp_seq ?_
      refine L_region ?_
      refine L_as ?_
      refine L_nil ?_
      refine E_n ?_
      refine C_ret ?_
      show bodyPost Try.prog Try.f51 (Rt Q) .ret _ _
      exact post_tmps (ts := [4]) (.inr rfl) rfl h
    · refine C_skip ?_
      refine E_n ?_
      refine wp_seq ?_
      refine wp_seq ?_
      refine L_region ?_
      refine L_mv ?_
      refine L_mv ?_
      refine L_u (P_lts h) ?_
      intro v w h
      refine L_nil ?_
      refine E_n ?_
      refine C_cnd h (fun h => ?_) (fun h => ?_)
      · refine wp_seq ?_
        refine L_region ?_
        refine L_as ?_
        refine L_nil ?_
        refine E_n ?_
        refine C_ret ?_
        show bodyPost Try.prog Try.f51 (Rt Q) .ret _ _
        exact post_tmps (ts := [4]) (.inr rfl) rfl h
      · refine C_skip ?_
        refine E_n ?_
        refine wp_seq ?_
        refine wp_seq ?_
        refine L_region ?_
        refine L_mv ?_
        refine L_mv ?_
        refine L_u (P_gts h) ?_
        intro v w h
        refine L_nil ?_
        refine E_n ?_
        refine C_cnd h (fun h => ?_) (fun h => ?_)
        · refine wp_seq ?_
          refine L_region ?_
          refine L_as ?_
          refine L_nil ?_
          refine E_n ?_
          refine C_ret ?_
          show bodyPost Try.prog Try.f51 (Rt Q) .ret _ _
          exact post_tmps (ts := [4]) (.inr rfl) rfl h
        · refine C_skip ?_
          refine E_n ?_
          refine wp_seq ?_
          refine L_region ?_
          refine L_as ?_
          refine L_nil ?_
          refine E_n ?_
          refine C_ret ?_
          show bodyPost Try.prog Try.f51 (Rt Q) .ret _ _
          exact post_tmps (ts := [4]) (.inr rfl) rfl h

/- factotum/keys.one -/
def f37 (t0 t1 : Value) : M :=
  bx 31 t0 fun t2 =>
  bx 31 t1 fun t3 =>
  dr <|
  fa 0 t2 fun t5 =>
  ld t5 fun t6 =>
  fa 0 t3 fun t7 =>
  ld t7 fun t8 =>
  fa 1 t2 fun t10 =>
  ld t10 fun t11 =>
  fa 1 t3 fun t12 =>
  ld t12 fun t13 =>
  fa 2 t2 fun t15 =>
  ld t15 fun t16 =>
  fa 2 t3 fun t17 =>
  ld t17 fun t18 =>
  cl (f49 t6 t8) fun t9 =>
  kp (Kld t17 t18) <|
  kp (Kld t15 t16) <|
  kp (Kld t12 t13) <|
  kp (Kld t10 t11) <|
  cl (f50 t11 t13) fun t14 =>
  kp (Kld t17 t18) <|
  kp (Kld t15 t16) <|
  cl (f51 t16 t18) fun t19 =>
  sm Try.prog (Instr.buildSlice 43 3 #[(0, t9), (1, t14), (2, t19)]) fun t20 =>
  cl (f48 t20) fun t21 =>
  idv t21 fun t4 =>
  rt t4
theorem s37 (t0 t1 : Value) (w : World) (Q : Value → World → Prop) (h : f37 t0 t1 w Q) : Calls Try.prog 37 #[t0, t1] w (Rt Q) := by
  refine calls_of (l := [t0, t1]) Try.func37 rfl Try.ntmps37 (Nat.le_of_ble_eq_true rfl) ?_
  unfold f37 at h
  refine wp_seq ?_
  refine L_region ?_
  refine L_u (P_bx h) ?_
  intro v w h
  refine L_u (P_bx h) ?_
  intro v w h
  refine L_as ?_
  refine L_nil ?_
  refine E_n ?_
  refine wp_seq ?_
  refine D_region (by decide +kernel) 18 rfl ?_
  replace h := dr_e h
  refine G_p 0 rfl (by decide +kernel) (Y_fa fo31_0 h) ?_
  intro v h
  refine G_r _ 1 rfl (by decide +kernel) (R_ld sc29 h) ?_
  intro v h
  refine G_p 2 rfl (by decide +kernel) (Y_fa fo31_0 h) ?_
  intro v h
  refine G_r _ 3 rfl (by decide +kernel) (R_ld sc29 h) ?_
  intro v h
  refine G_p 5 rfl (by decide +kernel) (Y_fa fo31_1 h) ?_
  intro v h
  refine G_r _ 6 rfl (by decide +kernel) (R_ld sc2 h) ?_
  intro v h
  refine G_p 7 rfl (by decide +kernel) (Y_fa fo31_1 h) ?_
  intro v h
  refine G_r _ 8 rfl (by decide +kernel) (R_ld sc2 h) ?_
  intro v h
  refine G_p 10 rfl (by decide +kernel) (Y_fa fo31_2 h) ?_
  intro v h
  refine G_r _ 11 rfl (by decide +kernel) (R_ld sc9 h) ?_
  intro v h
  refine G_p 12 rfl (by decide +kernel) (Y_fa fo31_2 h) ?_
  intro v h
  refine G_r _ 13 rfl (by decide +kernel) (R_ld sc9 h) ?_
  intro v h
  refine G_e 4 rfl (by decide +kernel) (N_cl Try.func49 rfl nn49 (fun w Q h => s49 _ _ w Q h) h ?_)
  intro v w h
  refine ⟨keepF_cons (kp_1 h) (keepF_cons (kp_1 (kp_2 h)) (keepF_cons (kp_1 (kp_2 (kp_2 h))) (keepF_cons (kp_1 (kp_2 (kp_2 (kp_2 h)))) (keepF_dep [3] (by decide +kernel) rfl (keepF_dep [1] (by decide +kernel) rfl keepF_nil))))), ?_⟩
  replace h := (kp_2 (kp_2 (kp_2 (kp_2 h))))
  refine G_e 9 rfl (by decide +kernel) (N_cl Try.func50 rfl nn50 (fun w Q h => s50 _ _ w Q h) h ?_)
  intro v w h
  refine ⟨keepF_cons (kp_1 h) (keepF_cons (kp_1 (kp_2 h)) (keepF_dep [8] (by decide +kernel) rfl (keepF_dep [6] (by decide +kernel) rfl (keepF_dep [4, 3] (by decide +kernel) rfl (keepF_dep [4, 1] (by decide +kernel) rfl keepF_nil))))), ?_⟩
  replace h := (kp_2 (kp_2 h))
  refine G_e 14 rfl (by decide +kernel) (N_cl Try.func51 rfl nn51 (fun w Q h => s51 _ _ w Q h) h ?_)
  intro v w h
  refine ⟨keepF_dep [13] (by decide +kernel) rfl (keepF_dep [11] (by decide +kernel) rfl (keepF_dep [9, 8] (by decide +kernel) rfl (keepF_dep [9, 6] (by decide +kernel) rfl (keepF_dep [9, 4, 3] (by decide +kernel) rfl (keepF_dep [9, 4, 1] (by decide +kernel) rfl keepF_nil))))), ?_⟩
  refine G_e 15 rfl (by decide +kernel) (N_bsl h ?_)
  intro v w h
  refine ⟨keepF_dep [14, 13] (by decide +kernel) rfl (keepF_dep [14, 11] (by decide +kernel) rfl (keepF_dep [9, 8] (by decide +kernel) rfl (keepF_dep [9, 6] (by decide +kernel) rfl (keepF_dep [4, 3] (by decide +kernel) rfl (keepF_dep [4, 1] (by decide +kernel) rfl keepF_nil))))), ?_⟩
  refine G_e 16 rfl (by decide +kernel) (N_cl Try.func48 rfl nn48 (fun w Q h => s48 _ w Q h) h ?_)
  intro v w h
  refine ⟨keepF_dep [14, 13] (by decide +kernel) rfl (keepF_dep [14, 11] (by decide +kernel) rfl (keepF_dep [15, 9, 8] (by decide +kernel) rfl (keepF_dep [15, 9, 6] (by decide +kernel) rfl (keepF_dep [15, 4, 3] (by decide +kernel) rfl (keepF_dep [15, 4, 1] (by decide +kernel) rfl keepF_nil))))), ?_⟩
  refine G_p 17 rfl (by decide +kernel) (Y_as h) ?_
  intro v h
  refine G_done (by decide +kernel) ?_
  refine E_n ?_
  refine C_ret ?_
  show bodyPost Try.prog Try.f37 (Rt Q) .ret _ _
  exact post_tmps (ts := [4]) (.inr rfl) rfl h

/- factotum/keys.Compare -/
def f19 (t0 t1 : Value) : M :=
  cl (f36 t0 t1 (.func (.func 37) #[] #[])) fun t7 =>
  rt t7
theorem s19 (t0 t1 : Value) (w : World) (Q : Value → World → Prop) (h : f19 t0 t1 w Q) : Calls Try.prog 19 #[t0, t1] w (Rt Q) := by
  refine calls_of (l := [t0, t1]) Try.func19 rfl Try.ntmps19 (Nat.le_of_ble_eq_true rfl) ?_
  unfold f19 at h
  refine wp_seq ?_
  refine L_region ?_
  refine L_as ?_
  refine L_nil ?_
  refine E_n ?_
  refine wp_seq ?_
  refine L_region ?_
  refine L_mv ?_
  refine L_mv ?_
  refine L_u (N_cl Try.func36 rfl nn36 (fun w Q h => s36 _ _ _ w Q h) h) ?_
  intro v w h
  refine L_as ?_
  refine L_nil ?_
  refine E_n ?_
  refine C_ret ?_
  show bodyPost Try.prog Try.f19 (Rt Q) .ret _ _
  exact post_tmps (ts := [4]) (.inr rfl) rfl h

/- factotum/relate.compare -/
def f35 (t0 t1 : Value) : M :=
  bx 31 t0 fun t2 =>
  bx 31 t1 fun t3 =>
  ldn 3 t2 fun t5 =>
  sm Try.prog (Instr.buildSlice 32 1 #[(0, t5)]) fun t6 =>
  ldn 3 t3 fun t7 =>
  sm Try.prog (Instr.buildSlice 32 1 #[(0, t7)]) fun t8 =>
  cl (f19 t6 t8) fun t9 =>
  rt t9
theorem s35 (t0 t1 : Value) (w : World) (Q : Value → World → Prop) (h : f35 t0 t1 w Q) : Calls Try.prog 35 #[t0, t1] w (Rt Q) := by
  refine calls_of (l := [t0, t1]) Try.func35 rfl Try.ntmps35 (Nat.le_of_ble_eq_true rfl) ?_
  unfold f35 at h
  refine wp_seq ?_
  refine L_region ?_
  refine L_u (P_bx h) ?_
  intro v w h
  refine L_u (P_bx h) ?_
  intro v w h
  refine L_as ?_
  refine L_nil ?_
  refine E_n ?_
  refine wp_seq ?_
  refine L_region ?_
  refine L_u (P_ldn ag31 h) ?_
  intro v w h
  refine L_u (N_bsl h) ?_
  intro v w h
  refine L_u (P_ldn ag31 h) ?_
  intro v w h
  refine L_u (N_bsl h) ?_
  intro v w h
  refine L_u (N_cl Try.func19 rfl nn19 (fun w Q h => s19 _ _ w Q h) h) ?_
  intro v w h
  refine L_as ?_
  refine L_nil ?_
  refine E_n ?_
  refine C_ret ?_
  show bodyPost Try.prog Try.f35 (Rt Q) .ret _ _
  exact post_tmps (ts := [4]) (.inr rfl) rfl h

/- factotum/relate.Where$1 -/
def f34 (t0 t1 t2 t3 : Value) : M :=
  dr <|
  ld t1 fun t7 =>
  lnl t7 fun t8 =>
  eqi .i64 t8 (.int .i64 0) fun t9 =>
  idv t9 fun t10 =>
  gd t10 false (idv t0) fun t11 =>
  gd t10 false (ld t2) fun t12 =>
  gd t10 false (ia 3 t11 t12) fun t13 =>
  gd t10 false (ldn 3 t13) fun t14 =>
  gd t10 false (ld t1) fun t15 =>
  gd t10 false (ia 3 t15 (.int .i64 0)) fun t16 =>
  gd t10 false (ldn 3 t16) fun t17 =>
  gd t10 false (cl (f35 t14 t17)) fun t18 =>
  gd t10 false (ge .i64 t18 (.int .i64 0)) fun t19 =>
  pk t10 (.bool true) t19 fun t20 =>
  idv t20 fun t6 =>
  dr <|
  idv t6 fun t21 =>
  idv t21 fun t22 =>
  gd t22 true (ld t3) fun t23 =>
  gd t22 true (lnl t23) fun t24 =>
  gd t22 true (eqi .i64 t24 (.int .i64 0)) fun t25 =>
  gd t22 true (idv t25) fun t26 =>
  gd t26 false (idv t0) fun t27 =>
  gd t26 false (ld t2) fun t28 =>
  gd t26 false (ia 3 t27 t28) fun t29 =>
  gd t26 false (ldn 3 t29) fun t30 =>
  gd t26 false (ld t3) fun t31 =>
  gd t26 false (ia 3 t31 (.int .i64 0)) fun t32 =>
  gd t26 false (ldn 3 t32) fun t33 =>
  gd t26 false (cl (f35 t30 t33)) fun t34 =>
  gd t26 false (lt .i64 t34 (.int .i64 0)) fun t35 =>
  gd t22 true (pk t26 (.bool true) t35) fun t36 =>
  pk t22 t36 (.bool false) fun t37 =>
  idv t37 fun t5 =>
  rt t5
theorem s34 (t0 t1 t2 t3 : Value) (w : World) (Q : Value → World → Prop) (h : f34 t0 t1 t2 t3 w Q) : Calls Try.prog 34 #[t0, t1, t2, t3] w (Rt Q) := by
  refine calls_of (l := [t0, t1, t2, t3]) Try.func34 rfl Try.ntmps34 (Nat.le_of_ble_eq_true rfl) ?_
  unfold f34 at h
  refine wp_seq ?_
  refine L_region ?_
  refine L_as ?_
  refine L_nil ?_
  refine E_n ?_
  refine wp_seq ?_
  refine D_region (by decide +kernel) 15 rfl ?_
  replace h := dr_e h
  refine G_r _ 0 rfl (by decide +kernel) (R_ld sc32 h) ?_
  intro v h
  refine G_p 1 rfl (by decide +kernel) (Y_lnl is32 h) ?_
  intro v h
  refine G_p 2 rfl (by decide +kernel) (Y_eqi h) ?_
  intro v h
  refine G_p 3 rfl (by decide +kernel) (Y_mv h) ?_
  intro v h
  refine G_pg (t := 10) 4 rfl (by decide +kernel) h rfl rfl (fun h => Y_mv h) ?_
  intro v h
  refine G_rg (t := 10) _ 5 rfl (by decide +kernel) h rfl rfl (fun h => R_ld sc3 h) ?_
  intro v h
  refine G_pg (t := 10) 6 rfl (by decide +kernel) h rfl rfl (fun h => Y_ia se33 h) ?_
  intro v h
  refine G_rg (t := 10) _ 7 rfl (by decide +kernel) h rfl rfl (fun h => R_ldn ag31 h) ?_
  intro v h
  refine G_rg (t := 10) _ 8 rfl (by decide +kernel) h rfl rfl (fun h => R_ld sc32 h) ?_
  intro v h
  refine G_pg (t := 10) 9 rfl (by decide +kernel) h rfl rfl (fun h => Y_ia se32 h) ?_
  intro v h
  refine G_rg (t := 10) _ 10 rfl (by decide +kernel) h rfl rfl (fun h => R_ldn ag31 h) ?_
  intro v h
  refine G_eg (t := 10) 11 rfl (by decide +kernel) h rfl rfl (fun c h => N_cl Try.func35 rfl nn35 (fun w Q h => s35 _ _ w Q h) h c) ?_
  intro v w h
  refine ⟨keepF_dep [10] (by decide +kernel) rfl (keepF_dep [10, 9, 8] (by decide +kernel) rfl (keepF_dep [7] (by decide +kernel) rfl (keepF_dep [7, 6, 5] (by decide +kernel) rfl (keepF_dep [3, 2, 1, 0] (by decide +kernel) rfl keepF_nil)))), ?_⟩
  refine G_pg (t := 10) 12 rfl (by decide +kernel) h rfl rfl (fun h => Y_ge h) ?_
  intro v h
  refine G_p 13 rfl (by decide +kernel) (Y_pk h) ?_
  intro v h
  refine G_p 14 rfl (by decide +kernel) (Y_as h) ?_
  intro v h
  refine G_done (by decide +kernel) ?_
  refine E_n ?_
  refine wp_seq ?_
  refine D_region (by decide +kernel) 18 rfl ?_
  replace h := dr_e h
  refine G_p 0 rfl (by decide +kernel) (Y_mv h) ?_
  intro v h
  refine G_p 1 rfl (by decide +kernel) (Y_mv h) ?_
  intro v h
  refine G_rg (t := 22) _ 2 rfl (by decide +kernel) h rfl rfl (fun h => R_ld sc32 h) ?_
  intro v h
  refine G_pg (t := 22) 3 rfl (by decide +kernel) h rfl rfl (fun h => Y_lnl is32 h) ?_
  intro v h
  refine G_pg (t := 22) 4 rfl (by decide +kernel) h rfl rfl (fun h => Y_eqi h) ?_
  intro v h
  refine G_pg (t := 22) 5 rfl (by decide +kernel) h rfl rfl (fun h => Y_mv h) ?_
  intro v h
  refine G_pg (t := 26) 6 rfl (by decide +kernel) h rfl rfl (fun h => Y_mv h) ?_
  intro v h
  refine G_rg (t := 26) _ 7 rfl (by decide +kernel) h rfl rfl (fun h => R_ld sc3 h) ?_
  intro v h
  refine G_pg (t := 26) 8 rfl (by decide +kernel) h rfl rfl (fun h => Y_ia se33 h) ?_
  intro v h
  refine G_rg (t := 26) _ 9 rfl (by decide +kernel) h rfl rfl (fun h => R_ldn ag31 h) ?_
  intro v h
  refine G_rg (t := 26) _ 10 rfl (by decide +kernel) h rfl rfl (fun h => R_ld sc32 h) ?_
  intro v h
  refine G_pg (t := 26) 11 rfl (by decide +kernel) h rfl rfl (fun h => Y_ia se32 h) ?_
  intro v h
  refine G_rg (t := 26) _ 12 rfl (by decide +kernel) h rfl rfl (fun h => R_ldn ag31 h) ?_
  intro v h
  refine G_eg (t := 26) 13 rfl (by decide +kernel) h rfl rfl (fun c h => N_cl Try.func35 rfl nn35 (fun w Q h => s35 _ _ w Q h) h c) ?_
  intro v w h
  refine ⟨keepF_dep [12] (by decide +kernel) rfl (keepF_dep [12, 11, 10] (by decide +kernel) rfl (keepF_dep [9] (by decide +kernel) rfl (keepF_dep [9, 8, 7] (by decide +kernel) rfl (keepF_dep [5, 4, 3, 2] (by decide +kernel) rfl keepF_nil)))), ?_⟩
  refine G_pg (t := 26) 14 rfl (by decide +kernel) h rfl rfl (fun h => Y_lt h) ?_
  intro v h
  refine G_pg (t := 22) 15 rfl (by decide +kernel) h rfl rfl (fun h => Y_pk h) ?_
  intro v h
  refine G_p 16 rfl (by decide +kernel) (Y_pk h) ?_
  intro v h
  refine G_p 17 rfl (by decide +kernel) (Y_as h) ?_
  intro v h
  refine G_done (by decide +kernel) ?_
  refine E_n ?_
  refine C_ret ?_
  show bodyPost Try.prog Try.f34 (Rt Q) .ret _ _
  exact post_tmps (ts := [5]) (.inr rfl) rfl h

/- factotum/relate.Where -/
def f18 (t0 t1 t2 t3 : Value) : M :=
  bx 3 t1 fun t5 =>
  bx 32 t2 fun t6 =>
  bx 32 t3 fun t7 =>
  ld t5 fun t11 =>
  cl (f26 t0 t11) fun t12 =>
  cnd t12 (
    rt (.tuple #[(.slice none 0 0), (.int .i64 7)])
    ) (
    idv (.func (.func 34) #[] #[t6, t5, t7]) fun t14 =>
    cl (f32 t0 t14) fun t15 =>
    rt (.tuple #[t15, (.int .i64 0)])
    )
theorem s18 (t0 t1 t2 t3 : Value) (w : World) (Q : Value → World → Prop) (h : f18 t0 t1 t2 t3 w Q) : Calls Try.prog 18 #[t0, t1, t2, t3] w (Rt Q) := by
  refine calls_of (l := [t0, t1, t2, t3]) Try.func18 rfl Try.ntmps18 (Nat.le_of_ble_eq_true rfl) ?_
  unfold f18 at h
  refine wp_seq ?_
  refine L_region ?_
  refine L_u (P_bx h) ?_
  intro v w h
  refine L_u (P_bx h) ?_
  intro v w h
  refine L_u (P_bx h) ?_
  intro v w h
  refine L_as ?_
  refine L_as ?_
  refine L_nil ?_
  refine E_n ?_
  refine wp_seq ?_
  refine wp_seq ?_
  refine L_region ?_
  refine L_mv ?_
  refine L_u (P_ld sc3 h) ?_
  intro v w h
  refine L_u (N_cl Try.func26 rfl nn26 (fun w Q h => s26 _ _ w Q h) h) ?_
  intro v w h
  refine L_nil ?_
  refine E_n ?_
  refine C_cnd h (fun h => ?_) (fun h => ?_)
  · refine wp_seq ?_
    refine L_region ?_
    refine L_as ?_
    refine L_as ?_
    refine L_nil ?_
    refine E_n ?_
    refine C_ret ?_
    show bodyPost Try.prog Try.f18 (Rt Q) .ret _ _
    exact post_tmps (ts := [8, 9]) (.inr rfl) rfl h
  · refine C_skip ?_
    refine E_n ?_
    refine wp_seq ?_
    refine L_region ?_
    refine L_mv ?_
    refine L_u (N_mf h) ?_
    intro v w h
    refine L_u (N_cl Try.func32 rfl nn32 (fun w Q h => s32 _ _ w Q h) h) ?_
    intro v w h
    refine L_as ?_
    refine L_as ?_
    refine L_nil ?_
    refine E_n ?_
    refine C_ret ?_
    show bodyPost Try.prog Try.f18 (Rt Q) .ret _ _
    exact post_tmps (ts := [8, 9]) (.inr rfl) rfl h

/- factotum/factotumlaw31.RelateParts -/
def f5_j4 (self2 : Value → Value → Value → Value → Value → Value → Value → Value → M) (t0_3 t1_3 t5_3 t7_2 t9_2 t11_2 t12_2 t13_2 : Value) : M :=
  ad .i64 t13_2 (.int .i64 1) fun t44 =>
  self2 t0_3 t1_3 t5_3 t7_2 t9_2 t11_2 t12_2 t44
def f5_j3 (self2 : Value → Value → Value → Value → Value → Value → Value → Value → M) (t0_2 t1_2 t5_2 t7_1 t9_1 t11_1 t12_1 t13_1 t62_2 : Value) : M :=
  jn (fun (j4 : Value → Value → Value → Value → Value → Value → Value → Value → M) =>
    cnd t62_2 (
      dr <|
      idv t7_1 fun t63 =>
      idv t11_1 fun t64 =>
      ia 1 t63 t64 fun t65 =>
      ld t65 fun t66 =>
      idv t0_2 fun t67 =>
      idv t13_1 fun t68 =>
      ia 1 t67 t68 fun t69 =>
      ld t69 fun t70 =>
      cl (f11 t66 t70) fun t71 =>
      nt t71 fun t72 =>
      cnd t72 (
        rt (.bool false)
        ) (
        ad .i64 t11_1 (.int .i64 1) fun t74 =>
        j4 t0_2 t1_2 t5_2 t7_1 t9_1 t74 t12_1 t13_1
        )
      ) (
      lnl t9_1 fun t77 =>
      lt .i64 t12_1 t77 fun t78 =>
      cnd t78 (
        dr <|
        idv t9_1 fun t79 =>
        idv t12_1 fun t80 =>
        ia 1 t79 t80 fun t81 =>
        ld t81 fun t82 =>
        idv t0_2 fun t83 =>
        idv t13_1 fun t84 =>
        ia 1 t83 t84 fun t85 =>
        ld t85 fun t86 =>
        cl (f11 t82 t86) fun t87 =>
        nt t87 fun t88 =>
        cnd t88 (
          rt (.bool false)
          ) (
          ad .i64 t12_1 (.int .i64 1) fun t90 =>
          j4 t0_2 t1_2 t5_2 t7_1 t9_1 t11_1 t90 t13_1
          )
        ) (
        j4 t0_2 t1_2 t5_2 t7_1 t9_1 t11_1 t12_1 t13_1
        )
      )
    ) (f5_j4 self2)
def f5_b2 (j1 : Value → Value → Value → Value → Value → M) (self2 : Value → Value → Value → Value → Value → Value → Value → Value → M) (t0_1 t1_1 t5_1 t7 t9 t11 t12 t13 : Value) : M :=
  lnl t0_1 fun t41 =>
  lt .i64 t13 t41 fun t42 =>
  cnd t42 (
    jn (fun (j3 : Value → Value → Value → Value → Value → Value → Value → Value → Value → M) =>
      dr <|
      idv t11 fun t45 =>
      idv t7 fun t46 =>
      lnl t46 fun t47 =>
      lt .i64 t45 t47 fun t48 =>
      idv t48 fun t49 =>
      gd t49 true (idv t0_1) fun t50 =>
      gd t49 true (idv t13) fun t51 =>
      gd t49 true (ia 1 t50 t51) fun t52 =>
      gd t49 true (ld t52) fun t53 =>
      gd t49 true (idv t1_1) fun t54 =>
      gd t49 true (ia 3 t53 t54) fun t55 =>
      gd t49 true (ldn 3 t55) fun t56 =>
      gd t49 true (ldn 3 t5_1) fun t58 =>
      amb (
        gd t49 true (sm Try.prog (Instr.buildSlice 32 1 #[(0, t56)])) fun t57 =>
        kp (fun w => gdB t49 true = true → Kldn 3 t5_1 t58 w) <|
        gd t49 true (sm Try.prog (Instr.buildSlice 32 1 #[(0, t58)])) fun t59_1 =>
        kp (fun w => gdB t49 true = true → Kldn 3 t55 t56 w) <|
        kp (fun w => gdB t49 true = true → Kld t52 t53 w) <|
        gd t49 true (cl (f19 t57 t59_1)) fun t60 =>
        gd t49 true (lt .i64 t60 (.int .i64 0)) fun t61 =>
        pk t49 t61 (.bool false) fun t62 =>
        j3 t0_1 t1_1 t5_1 t7 t9 t11 t12 t13 t62
        ) (
        gd t49 true (sm Try.prog (Instr.buildSlice 32 1 #[(0, t58)])) fun t59 =>
        kp (fun w => gdB t49 true = true → Kldn 3 t55 t56 w) <|
        kp (fun w => gdB t49 true = true → Kld t52 t53 w) <|
        gd t49 true (sm Try.prog (Instr.buildSlice 32 1 #[(0, t56)])) fun t57_1 =>
        kp (fun w => gdB t49 true = true → Kldn 3 t5_1 t58 w) <|
        gd t49 true (cl (f19 t57_1 t59)) fun t60_1 =>
        gd t49 true (lt .i64 t60_1 (.int .i64 0)) fun t61_1 =>
        pk t49 t61_1 (.bool false) fun t62_1 =>
        j3 t0_1 t1_1 t5_1 t7 t9 t11 t12 t13 t62_1
        )
      ) (f5_j3 self2)
    ) (
    j1 t0_1 t7 t9 t11 t12
    )
def f5_j1 (t0_4 t7_3 t9_3 t11_3 t12_3 : Value) : M :=
  cl (f14 t0_4) fun t92 =>
  lnl t7_3 fun t95 =>
  eqi .i64 t11_3 t95 fun t96 =>
  gd t96 true (idv t12_3) fun t98 =>
  gd t96 true (idv t9_3) fun t99 =>
  gd t96 true (lnl t99) fun t100 =>
  gd t96 true (eqi .i64 t98 t100) fun t101 =>
  pk t96 t101 (.bool false) fun t102 =>
  gd t102 true (idv t11_3) fun t104 =>
  gd t102 true (idv t12_3) fun t105 =>
  gd t102 true (ad .i64 t104 t105) fun t106 =>
  gd t102 true (idv t0_4) fun t107 =>
  gd t102 true (lnl t107) fun t108 =>
  gd t102 true (eqi .i64 t106 t108) fun t109 =>
  pk t102 t109 (.bool false) fun t110 =>
  gd t110 true (idv t0_4) fun t112 =>
  gd t110 true (idv t0_4) fun t113 =>
  gd t110 true (cl (f16 t112 t113)) fun t114 =>
  gd t110 true (lnl t114) fun t115 =>
  gd t110 true (eqi .i64 t115 (.int .i64 0)) fun t116 =>
  pk t110 t116 (.bool false) fun t117 =>
  gd t117 true (idv t0_4) fun t119 =>
  gd t117 true (idv t92) fun t120 =>
  gd t117 true (cl (f16 t119 t120)) fun t121 =>
  gd t117 true (lnl t121) fun t122 =>
  gd t117 true (eqi .i64 t122 (.int .i64 0)) fun t123 =>
  pk t117 t123 (.bool false) fun t124 =>
  gd t124 true (idv t92) fun t126 =>
  gd t124 true (cl (f14 t126)) fun t127 =>
  gd t124 true (idv t92) fun t128 =>
  gd t124 true (cl (f13 t127 t128)) fun t129 =>
  pk t124 t129 (.bool false) fun t130 =>
  rt t130
def f5 (t0 t1 t2 : Value) : M :=
  bx 31 t2 fun t5 =>
  cl (f8) fun t15 =>
  nt t15 fun t16 =>
  cnd t16 (
    rt (.bool false)
    ) (
    cl (f9 t0) fun t18 =>
    ldn 3 t5 fun t22 =>
    sm Try.prog (Instr.buildSlice 32 1 #[(0, t22)]) fun t23 =>
    cl (f18 t18 t1 (.slice none 0 0) t23) fun t24 =>
    ex 0 t24 fun t25 =>
    ex 1 t24 fun t26 =>
    ldn 3 t5 fun t30 =>
    sm Try.prog (Instr.buildSlice 32 1 #[(0, t30)]) fun t31 =>
    cl (f18 t18 t1 t31 (.slice none 0 0)) fun t32 =>
    ex 0 t32 fun t33 =>
    ex 1 t32 fun t34 =>
    nei .i64 t26 (.int .i64 0) fun t36 =>
    cnd t36 (
      eqi .i64 t34 (.int .i64 7) fun t38 =>
      rt t38
      ) (
      jn (fun (j1 : Value → Value → Value → Value → Value → M) =>
        lo (fun _ _ _ _ _ _ _ _ => bot) (f5_b2 j1) (fun l => l t18 t1 t5 t25 t33 (.int .i64 0) (.int .i64 0) (.int .i64 0))
        ) (f5_j1)
      )
    )
theorem s5 (t0 t1 t2 : Value) (w : World) (Q : Value → World → Prop) (h : f5 t0 t1 t2 w Q) : Calls Try.prog 5 #[t0, t1, t2] w (Rt Q) := by
  refine calls_of (l := [t0, t1, t2]) Try.func5 rfl Try.ntmps5 (Nat.le_of_ble_eq_true rfl) ?_
  unfold f5 at h
  refine wp_seq ?_
  refine L_region ?_
  refine L_u (P_bx h) ?_
  intro v w h
  refine L_as ?_
  refine L_nil ?_
  refine E_n ?_
  refine wp_seq ?_
  refine wp_seq ?_
  refine L_region ?_
  refine L_u (N_cl Try.func8 rfl nn8 (fun w Q h => s8 w Q h) h) ?_
  intro v w h
  refine L_u (P_nt h) ?_
  intro v w h
  refine L_nil ?_
  refine E_n ?_
  refine C_cnd h (fun h => ?_) (fun h => ?_)
  · refine wp_seq ?_
    refine L_region ?_
    refine L_as ?_
    refine L_nil ?_
    refine E_n ?_
    refine C_ret ?_
    show bodyPost Try.prog Try.f5 (Rt Q) .ret _ _
    exact post_tmps (ts := [6]) (.inr rfl) rfl h
  · refine C_skip ?_
    refine E_n ?_
    refine wp_seq ?_
    refine L_region ?_
    refine L_mv ?_
    refine L_u (N_cl Try.func9 rfl nn9 (fun w Q h => s9 _ w Q h) h) ?_
    intro v w h
    refine L_as ?_
    refine L_nil ?_
    refine E_n ?_
    refine wp_seq ?_
    refine L_region ?_
    refine L_mv ?_
    refine L_mv ?_
    refine L_u (P_ldn ag31 h) ?_
    intro v w h
    refine L_u (N_bsl h) ?_
    intro v w h
    refine L_u (N_cl Try.func18 rfl nn18 (fun w Q h => s18 _ _ _ _ w Q h) h) ?_
    intro v w h
    refine L_mv ?_
    refine L_u (P_ex h) ?_
    intro v w h
    refine L_u (P_ex h) ?_
    intro v w h
    refine L_as ?_
    refine L_as ?_
    refine L_nil ?_
    refine E_n ?_
    refine wp_seq ?_
    refine L_region ?_
    refine L_mv ?_
    refine L_mv ?_
    refine L_u (P_ldn ag31 h) ?_
    intro v w h
    refine L_u (N_bsl h) ?_
    intro v w h
    refine L_u (N_cl Try.func18 rfl nn18 (fun w Q h => s18 _ _ _ _ w Q h) h) ?_
    intro v w h
    refine L_mv ?_
    refine L_u (P_ex h) ?_
    intro v w h
    refine L_u (P_ex h) ?_
    intro v w h
    refine L_as ?_
    refine L_as ?_
    refine L_nil ?_
    refine E_n ?_
    refine wp_seq ?_
    refine wp_seq ?_
    refine L_region ?_
    refine L_mv ?_
    refine L_u (P_nei h) ?_
    intro v w h
    refine L_nil ?_
    refine E_n ?_
    refine C_cnd h (fun h => ?_) (fun h => ?_)
    · refine wp_seq ?_
      refine L_region ?_
      refine L_mv ?_
      refine L_u (P_eqi h) ?_
      intro v w h
      refine L_as ?_
      refine L_nil ?_
      refine E_n ?_
      refine C_ret ?_
      show bodyPost Try.prog Try.f5 (Rt Q) .ret _ _
      exact post_tmps (ts := [6]) (.inr rfl) rfl h
    · refine C_skip ?_
      refine E_n ?_
      refine wp_seq ?_
      refine L_region ?_
      refine L_as ?_
      refine L_as ?_
      refine L_nil ?_
      refine E_n ?_
      refine wp_seq ?_
      refine wp_seq ?_
      refine L_region ?_
      refine L_as ?_
      refine L_nil ?_
      refine E_n ?_
      refine C_join (fun (k : Value → Value → Value → Value → Value → M) (ρ : Nat → Value) => k (ρ 0) (ρ 7) (ρ 9) (ρ 11) (ρ 12)) h (fun j1 J1 h => ?_) (fun ρ w h => ?_)
      · refine C_blk ?_
        refine C_lo (fun (l : Value → Value → Value → Value → Value → Value → Value → Value → M) (ρ : Nat → Value) => l (ρ 0) (ρ 1) (ρ 5) (ρ 7) (ρ 9) (ρ 11) (ρ 12) (ρ 13)) h (fun ρ w h => h) (fun nx self2 L2 ρ w h => ?_)
        unfold f5_b2 at h
        refine wp_seq ?_
        refine wp_seq ?_
        refine L_region ?_
        refine L_mv ?_
        refine L_mv ?_
        refine L_u (P_lnl is22 h) ?_
        intro v w h
        refine L_u (P_lt h) ?_
        intro v w h
        refine L_nil ?_
        refine E_n ?_
        refine C_cnd h (fun h => ?_) (fun h => ?_)
        · refine C_skip ?_
          refine E_n ?_
          refine wp_seq ?_
          refine C_blk ?_
          refine wp_seq ?_
          refine C_join (fun (k : Value → Value → Value → Value → Value → Value → Value → Value → Value → M) (ρ : Nat → Value) => k (ρ 0) (ρ 1) (ρ 5) (ρ 7) (ρ 9) (ρ 11) (ρ 12) (ρ 13) (ρ 62)) h (fun j3 J3 h => ?_) (fun ρ w h => ?_)
          · refine D_region (by decide +kernel) 18 rfl ?_
            replace h := dr_e h
            refine G_p 0 rfl (by decide +kernel) (Y_mv h) ?_
            intro v h
            refine G_p 1 rfl (by decide +kernel) (Y_mv h) ?_
            intro v h
            refine G_p 2 rfl (by decide +kernel) (Y_lnl is22 h) ?_
            intro v h
            refine G_p 3 rfl (by decide +kernel) (Y_lt h) ?_
            intro v h
            refine G_p 4 rfl (by decide +kernel) (Y_mv h) ?_
            intro v h
            refine G_pg (t := 49) 5 rfl (by decide +kernel) h rfl rfl (fun h => Y_mv h) ?_
            intro v h
            refine G_pg (t := 49) 6 rfl (by decide +kernel) h rfl rfl (fun h => Y_mv h) ?_
            intro v h
            refine G_pg (t := 49) 7 rfl (by decide +kernel) h rfl rfl (fun h => Y_ia se22 h) ?_
            intro v h
            refine G_rg (t := 49) _ 8 rfl (by decide +kernel) h rfl rfl (fun h => R_ld sc33 h) ?_
            intro v h
            refine G_pg (t := 49) 9 rfl (by decide +kernel) h rfl rfl (fun h => Y_mv h) ?_
            intro v h
            refine G_pg (t := 49) 10 rfl (by decide +kernel) h rfl rfl (fun h => Y_ia se33 h) ?_
            intro v h
            refine G_rg (t := 49) _ 11 rfl (by decide +kernel) h rfl rfl (fun h => R_ldn ag31 h) ?_
            intro v h
            refine G_rg (t := 49) _ 13 rfl (by decide +kernel) h rfl rfl (fun h => R_ldn ag31 h) ?_
            intro v h
            refine G_two (i := 12) (j := 14) (by decide +kernel) (G_opg (t := 49) rfl (amb_1 h) rfl rfl (fun c h => N_bsl h c) ?_) (G_opg (t := 49) rfl (amb_2 h) rfl rfl (fun c h => N_bsl h c) ?_)
            · intro v w h
              refine ⟨keepF_cons (kp_1 h) (keepF_dep [11] (by decide +kernel) rfl (keepF_dep [11, 10, 8] (by decide +kernel) rfl keepF_nil)), ?_⟩
              replace h := (kp_2 h)
              refine G_eg (t := 49) 14 rfl (by decide +kernel) h rfl rfl (fun c h => N_bsl h c) ?_
              intro v w h
              refine ⟨keepF_dep [13] (by decide +kernel) rfl (keepF_cons (kp_1 h) (keepF_cons (kp_1 (kp_2 h)) keepF_nil)), ?_⟩
              replace h := (kp_2 (kp_2 h))
              refine G_eg (t := 49) 15 rfl (by decide +kernel) h rfl rfl (fun c h => N_cl Try.func19 rfl nn19 (fun w Q h => s19 _ _ w Q h) h c) ?_
              intro v w h
              refine ⟨keepF_dep [14, 13] (by decide +kernel) rfl (keepF_dep [12, 11] (by decide +kernel) rfl (keepF_dep [12, 11, 10, 8] (by decide +kernel) rfl keepF_nil)), ?_⟩
              refine G_pg (t := 49) 16 rfl (by decide +kernel) h rfl rfl (fun h => Y_lt h) ?_
              intro v h
              refine G_p 17 rfl (by decide +kernel) (Y_pk h) ?_
              intro v h
              refine G_done (by decide +kernel) ?_
              exact J3 _ _ h
            · intro v w h
              refine ⟨keepF_dep [13] (by decide +kernel) rfl (keepF_cons (kp_1 h) (keepF_cons (kp_1 (kp_2 h)) keepF_nil)), ?_⟩
              replace h := (kp_2 (kp_2 h))
              refine G_eg (t := 49) 12 rfl (by decide +kernel) h rfl rfl (fun c h => N_bsl h c) ?_
              intro v w h
              refine ⟨keepF_cons (kp_1 h) (keepF_dep [11] (by decide +kernel) rfl (keepF_dep [11, 10, 8] (by decide +kernel) rfl keepF_nil)), ?_⟩
              replace h := (kp_2 h)
              refine G_eg (t := 49) 15 rfl (by decide +kernel) h rfl rfl (fun c h => N_cl Try.func19 rfl nn19 (fun w Q h => s19 _ _ w Q h) h c) ?_
              intro v w h
              refine ⟨keepF_dep [14, 13] (by decide +kernel) rfl (keepF_dep [12, 11] (by decide +kernel) rfl (keepF_dep [12, 11, 10, 8] (by decide +kernel) rfl keepF_nil)), ?_⟩
              refine G_pg (t := 49) 16 rfl (by decide +kernel) h rfl rfl (fun h => Y_lt h) ?_
              intro v h
              refine G_p 17 rfl (by decide +kernel) (Y_pk h) ?_
              intro v h
              refine G_done (by decide +kernel) ?_
              exact J3 _ _ h
          · unfold f5_j3 at h
            refine E_n ?_
            refine C_join (fun (k : Value → Value → Value → Value → Value → Value → Value → Value → M) (ρ : Nat → Value) => k (ρ 0) (ρ 1) (ρ 5) (ρ 7) (ρ 9) (ρ 11) (ρ 12) (ρ 13)) h (fun j4 J4 h => ?_) (fun ρ w h => ?_)
            · refine C_cnd h (fun h => ?_) (fun h => ?_)
              · refine wp_seq ?_
                refine wp_seq ?_
                refine D_region (by decide +kernel) 10 rfl ?_
                replace h := dr_e h
                refine G_p 0 rfl (by decide +kernel) (Y_mv h) ?_
                intro v h
                refine G_p 1 rfl (by decide +kernel) (Y_mv h) ?_
                intro v h
                refine G_p 2 rfl (by decide +kernel) (Y_ia se22 h) ?_
                intro v h
                refine G_r _ 3 rfl (by decide +kernel) (R_ld sc33 h) ?_
                intro v h
                refine G_p 4 rfl (by decide +kernel) (Y_mv h) ?_
                intro v h
                refine G_p 5 rfl (by decide +kernel) (Y_mv h) ?_
                intro v h
                refine G_p 6 rfl (by decide +kernel) (Y_ia se22 h) ?_
                intro v h
                refine G_r _ 7 rfl (by decide +kernel) (R_ld sc33 h) ?_
                intro v h
                refine G_e 8 rfl (by decide +kernel) (N_cl Try.func11 rfl nn11 (fun w Q h => s11 _ _ w Q h) h ?_)
                intro v w h
                refine ⟨keepF_dep [7] (by decide +kernel) rfl (keepF_dep [3] (by decide +kernel) rfl keepF_nil), ?_⟩
                refine G_p 9 rfl (by decide +kernel) (Y_nt h) ?_
                intro v h
                refine G_done (by decide +kernel) ?_
                refine E_n ?_
                refine C_cnd h (fun h => ?_) (fun h => ?_)
                · refine wp_seq ?_
                  refine L_region ?_
                  refine L_as ?_
                  refine L_nil ?_
                  refine E_n ?_
                  refine C_ret ?_
                  show bodyPost Try.prog Try.f5 (Rt Q) .ret _ _
                  exact post_tmps (ts := [6]) (.inr rfl) rfl h
                · refine C_skip ?_
                  refine E_n ?_
                  refine L_region ?_
                  refine L_mv ?_
                  refine L_u (P_ad h) ?_
                  intro v w h
                  refine L_as ?_
                  refine L_nil ?_
                  exact J4 _ _ h
              · refine wp_seq ?_
                refine L_region ?_
                refine L_mv ?_
                refine L_mv ?_
                refine L_u (P_lnl is22 h) ?_
                intro v w h
                refine L_u (P_lt h) ?_
                intro v w h
                refine L_nil ?_
                refine E_n ?_
                refine C_cnd h (fun h => ?_) (fun h => ?_)
                · refine wp_seq ?_
                  refine wp_seq ?_
                  refine D_region (by decide +kernel) 10 rfl ?_
                  replace h := dr_e h
                  refine G_p 0 rfl (by decide +kernel) (Y_mv h) ?_
                  intro v h
                  refine G_p 1 rfl (by decide +kernel) (Y_mv h) ?_
                  intro v h
                  refine G_p 2 rfl (by decide +kernel) (Y_ia se22 h) ?_
                  intro v h
                  refine G_r _ 3 rfl (by decide +kernel) (R_ld sc33 h) ?_
                  intro v h
                  refine G_p 4 rfl (by decide +kernel) (Y_mv h) ?_
                  intro v h
                  refine G_p 5 rfl (by decide +kernel) (Y_mv h) ?_
                  intro v h
                  refine G_p 6 rfl (by decide +kernel) (Y_ia se22 h) ?_
                  intro v h
                  refine G_r _ 7 rfl (by decide +kernel) (R_ld sc33 h) ?_
                  intro v h
                  refine G_e 8 rfl (by decide +kernel) (N_cl Try.func11 rfl nn11 (fun w Q h => s11 _ _ w Q h) h ?_)
                  intro v w h
                  refine ⟨keepF_dep [7] (by decide +kernel) rfl (keepF_dep [3] (by decide +kernel) rfl keepF_nil), ?_⟩
                  refine G_p 9 rfl (by decide +kernel) (Y_nt h) ?_
                  intro v h
                  refine G_done (by decide +kernel) ?_
                  refine E_n ?_
                  refine C_cnd h (fun h => ?_) (fun h => ?_)
                  · refine wp_seq ?_
                    refine L_region ?_
                    refine L_as ?_
                    refine L_nil ?_
                    refine E_n ?_
                    refine C_ret ?_
                    show bodyPost Try.prog Try.f5 (Rt Q) .ret _ _
                    exact post_tmps (ts := [6]) (.inr rfl) rfl h
                  · refine C_skip ?_
                    refine E_n ?_
                    refine L_region ?_
                    refine L_mv ?_
                    refine L_u (P_ad h) ?_
                    intro v w h
                    refine L_as ?_
                    refine L_nil ?_
                    exact J4 _ _ h
                · refine C_skip ?_
                  exact J4 _ _ h
            · unfold f5_j4 at h
              refine B_n ?_
              refine E_n ?_
              refine L_region ?_
              refine L_mv ?_
              refine L_u (P_ad h) ?_
              intro v w h
              refine L_as ?_
              refine L_nil ?_
              refine E_n ?_
              exact L2 _ _ h
        · refine C_exit ?_
          refine E_x ?_
          refine E_x ?_
          refine B_x ?_
          exact J1 _ _ h
      · unfold f5_j1 at h
        refine E_n ?_
        refine wp_seq ?_
        refine L_region ?_
        refine L_mv ?_
        refine L_u (N_cl Try.func14 rfl nn14 (fun w Q h => s14 _ w Q h) h) ?_
        intro v w h
        refine L_as ?_
        refine L_nil ?_
        refine E_n ?_
        refine wp_seq ?_
        refine L_region ?_
        refine L_mv ?_
        refine L_mv ?_
        refine L_u (P_lnl is22 h) ?_
        intro v w h
        refine L_u (P_eqi h) ?_
        intro v w h
        refine L_mv ?_
        refine L_g (t := 97) h rfl rfl (fun c h => P_mv h c) ?_
        intro v w h
        refine L_g (t := 97) h rfl rfl (fun c h => P_mv h c) ?_
        intro v w h
        refine L_g (t := 97) h rfl rfl (fun c h => P_lnl is22 h c) ?_
        intro v w h
        refine L_g (t := 97) h rfl rfl (fun c h => P_eqi h c) ?_
        intro v w h
        refine L_u (P_pk h) ?_
        intro v w h
        refine L_mv ?_
        refine L_g (t := 103) h rfl rfl (fun c h => P_mv h c) ?_
        intro v w h
        refine L_g (t := 103) h rfl rfl (fun c h => P_mv h c) ?_
        intro v w h
        refine L_g (t := 103) h rfl rfl (fun c h => P_ad h c) ?_
        intro v w h
        refine L_g (t := 103) h rfl rfl (fun c h => P_mv h c) ?_
        intro v w h
        refine L_g (t := 103) h rfl rfl (fun c h => P_lnl is22 h c) ?_
        intro v w h
        refine L_g (t := 103) h rfl rfl (fun c h => P_eqi h c) ?_
        intro v w h
        refine L_u (P_pk h) ?_
        intro v w h
        refine L_mv ?_
        refine L_g (t := 111) h rfl rfl (fun c h => P_mv h c) ?_
        intro v w h
        refine L_g (t := 111) h rfl rfl (fun c h => P_mv h c) ?_
        intro v w h
        refine L_g (t := 111) h rfl rfl (fun c h => N_cl Try.func16 rfl nn16 (fun w Q h => s16 _ _ w Q h) h c) ?_
        intro v w h
        refine L_g (t := 111) h rfl rfl (fun c h => P_lnl is22 h c) ?_
        intro v w h
        refine L_g (t := 111) h rfl rfl (fun c h => P_eqi h c) ?_
        intro v w h
        refine L_u (P_pk h) ?_
        intro v w h
        refine L_mv ?_
        refine L_g (t := 118) h rfl rfl (fun c h => P_mv h c) ?_
        intro v w h
        refine L_g (t := 118) h rfl rfl (fun c h => P_mv h c) ?_
        intro v w h
        refine L_g (t := 118) h rfl rfl (fun c h => N_cl Try.func16 rfl nn16 (fun w Q h => s16 _ _ w Q h) h c) ?_
        intro v w h
        refine L_g (t := 118) h rfl rfl (fun c h => P_lnl is22 h c) ?_
        intro v w h
        refine L_g (t := 118) h rfl rfl (fun c h => P_eqi h c) ?_
        intro v w h
        refine L_u (P_pk h) ?_
        intro v w h
        refine L_mv ?_
        refine L_g (t := 125) h rfl rfl (fun c h => P_mv h c) ?_
        intro v w h
        refine L_g (t := 125) h rfl rfl (fun c h => N_cl Try.func14 rfl nn14 (fun w Q h => s14 _ w Q h) h c) ?_
        intro v w h
        refine L_g (t := 125) h rfl rfl (fun c h => P_mv h c) ?_
        intro v w h
        refine L_g (t := 125) h rfl rfl (fun c h => N_cl Try.func13 rfl nn13 (fun w Q h => s13 _ _ w Q h) h c) ?_
        intro v w h
        refine L_u (P_pk h) ?_
        intro v w h
        refine L_as ?_
        refine L_nil ?_
        refine E_n ?_
        refine C_ret ?_
        show bodyPost Try.prog Try.f5 (Rt Q) .ret _ _
        exact post_tmps (ts := [6]) (.inr rfl) rfl h

/- factotum/relate.Sort$1 -/
def f38 (t0 : Value) : M :=
  rt (.bool true)
theorem s38 (t0 : Value) (w : World) (Q : Value → World → Prop) (h : f38 t0 w Q) : Calls Try.prog 38 #[t0] w (Rt Q) := by
  refine calls_of (l := [t0]) Try.func38 rfl Try.ntmps38 (Nat.le_of_ble_eq_true rfl) ?_
  unfold f38 at h
  refine wp_seq ?_
  refine L_region ?_
  refine L_as ?_
  refine L_nil ?_
  refine E_n ?_
  refine wp_seq ?_
  refine L_region ?_
  refine L_as ?_
  refine L_nil ?_
  refine E_n ?_
  refine C_ret ?_
  show bodyPost Try.prog Try.f38 (Rt Q) .ret _ _
  exact post_tmps (ts := [2]) (.inr rfl) rfl h

/- slices.insertionSortCmpFunc[factotum/api.Row] -/
def f58_b3 (j2 : Value → Value → Value → Value → Value → M) (self3 : Value → Value → Value → Value → Value → Value → M) (t0_2 t1_2 t2_2 t3_2 t8_1 t9 : Value) : M :=
  dr <|
  idv t9 fun t18 =>
  idv t1_2 fun t19 =>
  gt .i64 t18 t19 fun t20 =>
  idv t20 fun t21 =>
  gd t21 true (idv t3_2) fun t22 =>
  gd t21 true (idv t0_2) fun t23 =>
  gd t21 true (idv t9) fun t24 =>
  gd t21 true (ia 1 t23 t24) fun t25 =>
  gd t21 true (ld t25) fun t26 =>
  gd t21 true (idv t0_2) fun t27 =>
  gd t21 true (idv t9) fun t28 =>
  gd t21 true (su .i64 t28 (.int .i64 1)) fun t29 =>
  gd t21 true (ia 1 t27 t29) fun t30 =>
  gd t21 true (ld t30) fun t31 =>
  gd t21 true (cf Try.prog t22 #[t26, t31]) fun t32 =>
  gd t21 true (lt .i64 t32 (.int .i64 0)) fun t33 =>
  pk t21 t33 (.bool false) fun t34 =>
  cnd t34 (
    dr <|
    idv t0_2 fun t37 =>
    idv t9 fun t38 =>
    idv t0_2 fun t39 =>
    idv t9 fun t40 =>
    su .i64 t40 (.int .i64 1) fun t41 =>
    idv t0_2 fun t42 =>
    idv t9 fun t43 =>
    su .i64 t43 (.int .i64 1) fun t44 =>
    ia 1 t42 t44 fun t45 =>
    ld t45 fun t46 =>
    idv t0_2 fun t47 =>
    idv t9 fun t48 =>
    ia 1 t47 t48 fun t49 =>
    ld t49 fun t50 =>
    ia 1 t37 t38 fun t51 =>
    st t51 t46 <|
    ia 1 t39 t41 fun t52 =>
    st t52 t50 <|
    su .i64 t9 (.int .i64 1) fun t36 =>
    self3 t0_2 t1_2 t2_2 t3_2 t8_1 t36
    ) (
    j2 t0_2 t1_2 t2_2 t3_2 t8_1
    )
def f58_j2 (self1 : Value → Value → Value → Value → Value → M) (t0_3 t1_3 t2_3 t3_3 t8_2 : Value) : M :=
  ad .i64 t8_2 (.int .i64 1) fun t16 =>
  self1 t0_3 t1_3 t2_3 t3_3 t16
def f58_b1 (self1 : Value → Value → Value → Value → Value → M) (t0_1 t1_1 t2_1 t3_1 t8 : Value) : M :=
  lt .i64 t8 t2_1 fun t14 =>
  cnd t14 (
    jn (fun (j2 : Value → Value → Value → Value → Value → M) =>
      lo (fun _ _ _ _ _ _ => bot) (f58_b3 j2) (fun l => l t0_1 t1_1 t2_1 t3_1 t8 t8)
      ) (f58_j2 self1)
    ) (
    rt (.tuple #[])
    )
def f58 (t0 t1 t2 t3 : Value) : M :=
  ad .i64 t1 (.int .i64 1) fun t11 =>
  lo (fun _ _ _ _ _ => bot) (f58_b1) (fun l => l t0 t1 t2 t3 t11)
theorem s58 (t0 t1 t2 t3 : Value) (w : World) (Q : Value → World → Prop) (h : f58 t0 t1 t2 t3 w Q) : Calls Try.prog 58 #[t0, t1, t2, t3] w (Rt Q) := by
  refine calls_of (l := [t0, t1, t2, t3]) Try.func58 rfl Try.ntmps58 (Nat.le_of_ble_eq_true rfl) ?_
  unfold f58 at h
  refine wp_seq ?_
  refine L_region ?_
  refine L_mv ?_
  refine L_u (P_ad h) ?_
  intro v w h
  refine L_as ?_
  refine L_nil ?_
  refine E_n ?_
  refine C_blk ?_
  refine C_lo (fun (l : Value → Value → Value → Value → Value → M) (ρ : Nat → Value) => l (ρ 0) (ρ 1) (ρ 2) (ρ 3) (ρ 8)) h (fun ρ w h => h) (fun nx self1 L1 ρ w h => ?_)
  unfold f58_b1 at h
  refine wp_seq ?_
  refine wp_seq ?_
  refine L_region ?_
  refine L_mv ?_
  refine L_mv ?_
  refine L_u (P_lt h) ?_
  intro v w h
  refine L_nil ?_
  refine E_n ?_
  refine C_cnd h (fun h => ?_) (fun h => ?_)
  · refine C_skip ?_
    refine E_n ?_
    refine wp_seq ?_
    refine C_blk ?_
    refine wp_seq ?_
    refine L_region ?_
    refine L_mv ?_
    refine L_as ?_
    refine L_nil ?_
    refine E_n ?_
    refine C_join (fun (k : Value → Value → Value → Value → Value → M) (ρ : Nat → Value) => k (ρ 0) (ρ 1) (ρ 2) (ρ 3) (ρ 8)) h (fun j2 J2 h => ?_) (fun ρ w h => ?_)
    · refine C_blk ?_
      refine C_lo (fun (l : Value → Value → Value → Value → Value → Value → M) (ρ : Nat → Value) => l (ρ 0) (ρ 1) (ρ 2) (ρ 3) (ρ 8) (ρ 9)) h (fun ρ w h => h) (fun nx self3 L3 ρ w h => ?_)
      unfold f58_b3 at h
      refine wp_seq ?_
      refine wp_seq ?_
      refine D_region (by decide +kernel) 17 rfl ?_
      replace h := dr_e h
      refine G_p 0 rfl (by decide +kernel) (Y_mv h) ?_
      intro v h
      refine G_p 1 rfl (by decide +kernel) (Y_mv h) ?_
      intro v h
      refine G_p 2 rfl (by decide +kernel) (Y_gt h) ?_
      intro v h
      refine G_p 3 rfl (by decide +kernel) (Y_mv h) ?_
      intro v h
      refine G_pg (t := 21) 4 rfl (by decide +kernel) h rfl rfl (fun h => Y_mv h) ?_
      intro v h
      refine G_pg (t := 21) 5 rfl (by decide +kernel) h rfl rfl (fun h => Y_mv h) ?_
      intro v h
      refine G_pg (t := 21) 6 rfl (by decide +kernel) h rfl rfl (fun h => Y_mv h) ?_
      intro v h
      refine G_pg (t := 21) 7 rfl (by decide +kernel) h rfl rfl (fun h => Y_ia se22 h) ?_
      intro v h
      refine G_rg (t := 21) _ 8 rfl (by decide +kernel) h rfl rfl (fun h => R_ld sc33 h) ?_
      intro v h
      refine G_pg (t := 21) 9 rfl (by decide +kernel) h rfl rfl (fun h => Y_mv h) ?_
      intro v h
      refine G_pg (t := 21) 10 rfl (by decide +kernel) h rfl rfl (fun h => Y_mv h) ?_
      intro v h
      refine G_pg (t := 21) 11 rfl (by decide +kernel) h rfl rfl (fun h => Y_su h) ?_
      intro v h
      refine G_pg (t := 21) 12 rfl (by decide +kernel) h rfl rfl (fun h => Y_ia se22 h) ?_
      intro v h
      refine G_rg (t := 21) _ 13 rfl (by decide +kernel) h rfl rfl (fun h => R_ld sc33 h) ?_
      intro v h
      refine G_eg (t := 21) 14 rfl (by decide +kernel) h rfl rfl (fun c h => N_cf h c) ?_
      intro v w h
      refine ⟨keepF_dep [13] (by decide +kernel) rfl (keepF_dep [8] (by decide +kernel) rfl keepF_nil), ?_⟩
      refine G_pg (t := 21) 15 rfl (by decide +kernel) h rfl rfl (fun h => Y_lt h) ?_
      intro v h
      refine G_p 16 rfl (by decide +kernel) (Y_pk h) ?_
      intro v h
      refine G_done (by decide +kernel) ?_
      refine E_n ?_
      refine C_cnd h (fun h => ?_) (fun h => ?_)
      · refine C_skip ?_
        refine E_n ?_
        refine wp_seq ?_
        refine C_blk ?_
        refine D_region (by decide +kernel) 18 rfl ?_
        replace h := dr_e h
        refine G_p 0 rfl (by decide +kernel) (Y_mv h) ?_
        intro v h
        refine G_p 1 rfl (by decide +kernel) (Y_mv h) ?_
        intro v h
        refine G_p 2 rfl (by decide +kernel) (Y_mv h) ?_
        intro v h
        refine G_p 3 rfl (by decide +kernel) (Y_mv h) ?_
        intro v h
        refine G_p 4 rfl (by decide +kernel) (Y_su h) ?_
        intro v h
        refine G_p 5 rfl (by decide +kernel) (Y_mv h) ?_
        intro v h
        refine G_p 6 rfl (by decide +kernel) (Y_mv h) ?_
        intro v h
        refine G_p 7 rfl (by decide +kernel) (Y_su h) ?_
        intro v h
        refine G_p 8 rfl (by decide +kernel) (Y_ia se22 h) ?_
        intro v h
        refine G_r _ 9 rfl (by decide +kernel) (R_ld sc33 h) ?_
        intro v h
        refine G_p 10 rfl (by decide +kernel) (Y_mv h) ?_
        intro v h
        refine G_p 11 rfl (by decide +kernel) (Y_mv h) ?_
        intro v h
        refine G_p 12 rfl (by decide +kernel) (Y_ia se22 h) ?_
        intro v h
        refine G_r _ 13 rfl (by decide +kernel) (R_ld sc33 h) ?_
        intro v h
        refine G_p 14 rfl (by decide +kernel) (Y_ia se22 h) ?_
        intro v h
        refine G_e 15 rfl (by decide +kernel) (P_st on33 h ?_)
        intro w h
        refine ⟨keepF_dep [13] (by decide +kernel) rfl (keepF_dep [9] (by decide +kernel) rfl keepF_nil), ?_⟩
        refine G_p 16 rfl (by decide +kernel) (Y_ia se22 h) ?_
        intro v h
        refine G_e 17 rfl (by decide +kernel) (P_st on33 h ?_)
        intro w h
        refine ⟨keepF_dep [13] (by decide +kernel) rfl (keepF_dep [9] (by decide +kernel) rfl keepF_nil), ?_⟩
        refine G_done (by decide +kernel) ?_
        refine B_n ?_
        refine E_n ?_
        refine L_region ?_
        refine L_mv ?_
        refine L_u (P_su h) ?_
        intro v w h
        refine L_as ?_
        refine L_nil ?_
        refine E_n ?_
        exact L3 _ _ h
      · refine C_exit ?_
        refine E_x ?_
        refine E_x ?_
        refine B_x ?_
        exact J2 _ _ h
    · unfold f58_j2 at h
      refine B_n ?_
      refine E_n ?_
      refine L_region ?_
      refine L_mv ?_
      refine L_u (P_ad h) ?_
      intro v w h
      refine L_as ?_
      refine L_nil ?_
      refine E_n ?_
      exact L1 _ _ h
  · refine C_exit ?_
    refine E_x ?_
    refine E_x ?_
    refine B_x ?_
    show bodyPost Try.prog Try.f58 (Rt Q) .normal _ _
    exact post_tmps (ts := []) (.inl rfl) rfl h
end Go.Proofs.Ytlmiimojgledpaa

set_option maxRecDepth 20000
set_option maxHeartbeats 4000000
namespace Go.Proofs.Ytlmiimojgledpaa
open Sh
attribute [local irreducible] wpL anyG act jn lo gdB amb kp smr nc fa ld ldn st stn ad su mu qu re lt le gt ge eqi nei bws shl shr cat eqs nes lts gts eqb neb nt pk cv al bx ex fld fldn lnl lns ia iaa ixs sls sll sla mif mnm mxm mm asrt sm smu cl cc cf ci cnd gd gdu
/- slices.swapRangeCmpFunc[factotum/api.Row] -/
def f63_b1 (self1 : Value → Value → Value → Value → Value → M) (t0_1 t1_1 t2_1 t3_1 t10 : Value) : M :=
  lt .i64 t10 t3_1 fun t13 =>
  cnd t13 (
    dr <|
    idv t0_1 fun t16 =>
    idv t1_1 fun t17 =>
    idv t10 fun t18 =>
    ad .i64 t17 t18 fun t19 =>
    idv t0_1 fun t20 =>
    idv t2_1 fun t21 =>
    idv t10 fun t22 =>
    ad .i64 t21 t22 fun t23 =>
    idv t0_1 fun t24 =>
    idv t2_1 fun t25 =>
    idv t10 fun t26 =>
    ad .i64 t25 t26 fun t27 =>
    ia 1 t24 t27 fun t28 =>
    ld t28 fun t29 =>
    idv t0_1 fun t30 =>
    idv t1_1 fun t31 =>
    idv t10 fun t32 =>
    ad .i64 t31 t32 fun t33 =>
    ia 1 t30 t33 fun t34 =>
    ld t34 fun t35 =>
    ia 1 t16 t19 fun t36 =>
    st t36 t29 <|
    ia 1 t20 t23 fun t37 =>
    st t37 t35 <|
    ad .i64 t10 (.int .i64 1) fun t15 =>
    self1 t0_1 t1_1 t2_1 t3_1 t15
    ) (
    rt (.tuple #[])
    )
def f63 (t0 t1 t2 t3 t4 : Value) : M :=
  lo (fun _ _ _ _ _ => bot) (f63_b1) (fun l => l t0 t1 t2 t3 (.int .i64 0))
theorem s63 (t0 t1 t2 t3 t4 : Value) (w : World) (Q : Value → World → Prop) (h : f63 t0 t1 t2 t3 t4 w Q) : Calls Try.prog 63 #[t0, t1, t2, t3, t4] w (Rt Q) := by
  refine calls_of (l := [t0, t1, t2, t3, t4]) Try.func63 rfl Try.ntmps63 (Nat.le_of_ble_eq_true rfl) ?_
  unfold f63 at h
  refine wp_seq ?_
  refine L_region ?_
  refine L_as ?_
  refine L_nil ?_
  refine E_n ?_
  refine C_blk ?_
  refine C_lo (fun (l : Value → Value → Value → Value → Value → M) (ρ : Nat → Value) => l (ρ 0) (ρ 1) (ρ 2) (ρ 3) (ρ 10)) h (fun ρ w h => h) (fun nx self1 L1 ρ w h => ?_)
  unfold f63_b1 at h
  refine wp_seq ?_
  refine wp_seq ?_
  refine L_region ?_
  refine L_mv ?_
  refine L_mv ?_
  refine L_u (P_lt h) ?_
  intro v w h
  refine L_nil ?_
  refine E_n ?_
  refine C_cnd h (fun h => ?_) (fun h => ?_)
  · refine C_skip ?_
    refine E_n ?_
    refine wp_seq ?_
    refine C_blk ?_
    refine D_region (by decide +kernel) 24 rfl ?_
    replace h := dr_e h
    refine G_p 0 rfl (by decide +kernel) (Y_mv h) ?_
    intro v h
    refine G_p 1 rfl (by decide +kernel) (Y_mv h) ?_
    intro v h
    refine G_p 2 rfl (by decide +kernel) (Y_mv h) ?_
    intro v h
    refine G_p 3 rfl (by decide +kernel) (Y_ad h) ?_
    intro v h
    refine G_p 4 rfl (by decide +kernel) (Y_mv h) ?_
    intro v h
    refine G_p 5 rfl (by decide +kernel) (Y_mv h) ?_
    intro v h
    refine G_p 6 rfl (by decide +kernel) (Y_mv h) ?_
    intro v h
    refine G_p 7 rfl (by decide +kernel) (Y_ad h) ?_
    intro v h
    refine G_p 8 rfl (by decide +kernel) (Y_mv h) ?_
    intro v h
    refine G_p 9 rfl (by decide +kernel) (Y_mv h) ?_
    intro v h
    refine G_p 10 rfl (by decide +kernel) (Y_mv h) ?_
    intro v h
    refine G_p 11 rfl (by decide +kernel) (Y_ad h) ?_
    intro v h
    refine G_p 12 rfl (by decide +kernel) (Y_ia se22 h) ?_
    intro v h
    refine G_r _ 13 rfl (by decide +kernel) (R_ld sc33 h) ?_
    intro v h
    refine G_p 14 rfl (by decide +kernel) (Y_mv h) ?_
    intro v h
    refine G_p 15 rfl (by decide +kernel) (Y_mv h) ?_
    intro v h
    refine G_p 16 rfl (by decide +kernel) (Y_mv h) ?_
    intro v h
    refine G_p 17 rfl (by decide +kernel) (Y_ad h) ?_
    intro v h
    refine G_p 18 rfl (by decide +kernel) (Y_ia se22 h) ?_
    intro v h
    refine G_r _ 19 rfl (by decide +kernel) (R_ld sc33 h) ?_
    intro v h
    refine G_p 20 rfl (by decide +kernel) (Y_ia se22 h) ?_
    intro v h
    refine G_e 21 rfl (by decide +kernel) (P_st on33 h ?_)
    intro w h
    refine ⟨keepF_dep [19] (by decide +kernel) rfl (keepF_dep [13] (by decide +kernel) rfl keepF_nil), ?_⟩
    refine G_p 22 rfl (by decide +kernel) (Y_ia se22 h) ?_
    intro v h
    refine G_e 23 rfl (by decide +kernel) (P_st on33 h ?_)
    intro w h
    refine ⟨keepF_dep [19] (by decide +kernel) rfl (keepF_dep [13] (by decide +kernel) rfl keepF_nil), ?_⟩
    refine G_done (by decide +kernel) ?_
    refine B_n ?_
    refine E_n ?_
    refine L_region ?_
    refine L_mv ?_
    refine L_u (P_ad h) ?_
    intro v w h
    refine L_as ?_
    refine L_nil ?_
    refine E_n ?_
    exact L1 _ _ h
  · refine C_exit ?_
    refine E_x ?_
    refine E_x ?_
    refine B_x ?_
    show bodyPost Try.prog Try.f63 (Rt Q) .normal _ _
    exact post_tmps (ts := []) (.inl rfl) rfl h

/- slices.rotateCmpFunc[factotum/api.Row] -/
def f61_b2 (j1 : Value → Value → Value → Value → M) (self2 : Value → Value → Value → Value → Value → M) (t0_1 t2_1 t4_1 t10 t11 : Value) : M :=
  nei .i64 t10 t11 fun t20 =>
  cnd t20 (
    gt .i64 t10 t11 fun t23 =>
    cnd t23 (
      su .i64 t2_1 t10 fun t27 =>
      cl (f63 t0_1 t27 t2_1 t11 t4_1) fun t31 =>
      su .i64 t10 t11 fun t34 =>
      self2 t0_1 t2_1 t4_1 t34 t11
      ) (
      su .i64 t2_1 t10 fun t38 =>
      ad .i64 t2_1 t11 fun t41 =>
      su .i64 t41 t10 fun t43 =>
      cl (f63 t0_1 t38 t43 t10 t4_1) fun t46 =>
      su .i64 t11 t10 fun t49 =>
      self2 t0_1 t2_1 t4_1 t10 t49
      )
    ) (
    j1 t0_1 t2_1 t4_1 t10
    )
def f61_j1 (t0_2 t2_2 t4_2 t10_1 : Value) : M :=
  su .i64 t2_2 t10_1 fun t53 =>
  cl (f63 t0_2 t53 t2_2 t10_1 t4_2) fun t57 =>
  rt (.tuple #[])
def f61 (t0 t1 t2 t3 t4 : Value) : M :=
  su .i64 t2 t1 fun t14 =>
  su .i64 t3 t2 fun t17 =>
  jn (fun (j1 : Value → Value → Value → Value → M) =>
    lo (fun _ _ _ _ _ => bot) (f61_b2 j1) (fun l => l t0 t2 t4 t14 t17)
    ) (f61_j1)
theorem s61 (t0 t1 t2 t3 t4 : Value) (w : World) (Q : Value → World → Prop) (h : f61 t0 t1 t2 t3 t4 w Q) : Calls Try.prog 61 #[t0, t1, t2, t3, t4] w (Rt Q) := by
  refine calls_of (l := [t0, t1, t2, t3, t4]) Try.func61 rfl Try.ntmps61 (Nat.le_of_ble_eq_true rfl) ?_
  unfold f61 at h
  refine wp_seq ?_
  refine L_region ?_
  refine L_mv ?_
  refine L_mv ?_
  refine L_u (P_su h) ?_
  intro v w h
  refine L_as ?_
  refine L_nil ?_
  refine E_n ?_
  refine wp_seq ?_
  refine L_region ?_
  refine L_mv ?_
  refine L_mv ?_
  refine L_u (P_su h) ?_
  intro v w h
  refine L_as ?_
  refine L_nil ?_
  refine E_n ?_
  refine wp_seq ?_
  refine C_join (fun (k : Value → Value → Value → Value → M) (ρ : Nat → Value) => k (ρ 0) (ρ 2) (ρ 4) (ρ 10)) h (fun j1 J1 h => ?_) (fun ρ w h => ?_)
  · refine C_blk ?_
    refine C_lo (fun (l : Value → Value → Value → Value → Value → M) (ρ : Nat → Value) => l (ρ 0) (ρ 2) (ρ 4) (ρ 10) (ρ 11)) h (fun ρ w h => h) (fun nx self2 L2 ρ w h => ?_)
    unfold f61_b2 at h
    refine wp_seq ?_
    refine wp_seq ?_
    refine L_region ?_
    refine L_mv ?_
    refine L_mv ?_
    refine L_u (P_nei h) ?_
    intro v w h
    refine L_nil ?_
    refine E_n ?_
    refine C_cnd h (fun h => ?_) (fun h => ?_)
    · refine C_skip ?_
      refine E_n ?_
      refine C_blk ?_
      refine wp_seq ?_
      refine L_region ?_
      refine L_mv ?_
      refine L_mv ?_
      refine L_u (P_gt h) ?_
      intro v w h
      refine L_nil ?_
      refine E_n ?_
      refine C_cnd h (fun h => ?_) (fun h => ?_)
      · refine wp_seq ?_
        refine L_region ?_
        refine L_mv ?_
        refine L_mv ?_
        refine L_mv ?_
        refine L_u (P_su h) ?_
        intro v w h
        refine L_mv ?_
        refine L_mv ?_
        refine L_mv ?_
        refine L_u (N_cl Try.func63 rfl nn63 (fun w Q h => s63 _ _ _ _ _ w Q h) h) ?_
        intro v w h
        refine L_nil ?_
        refine E_n ?_
        refine L_region ?_
        refine L_mv ?_
        refine L_mv ?_
        refine L_u (P_su h) ?_
        intro v w h
        refine L_as ?_
        refine L_nil ?_
        refine B_n ?_
        refine E_n ?_
        exact L2 _ _ h
      · refine wp_seq ?_
        refine L_region ?_
        refine L_mv ?_
        refine L_mv ?_
        refine L_mv ?_
        refine L_u (P_su h) ?_
        intro v w h
        refine L_mv ?_
        refine L_mv ?_
        refine L_u (P_ad h) ?_
        intro v w h
        refine L_mv ?_
        refine L_u (P_su h) ?_
        intro v w h
        refine L_mv ?_
        refine L_mv ?_
        refine L_u (N_cl Try.func63 rfl nn63 (fun w Q h => s63 _ _ _ _ _ w Q h) h) ?_
        intro v w h
        refine L_nil ?_
        refine E_n ?_
        refine L_region ?_
        refine L_mv ?_
        refine L_mv ?_
        refine L_u (P_su h) ?_
        intro v w h
        refine L_as ?_
        refine L_nil ?_
        refine B_n ?_
        refine E_n ?_
        exact L2 _ _ h
    · refine C_exit ?_
      refine E_x ?_
      refine E_x ?_
      refine B_x ?_
      exact J1 _ _ h
  · unfold f61_j1 at h
    refine E_n ?_
    refine L_region ?_
    refine L_mv ?_
    refine L_mv ?_
    refine L_mv ?_
    refine L_u (P_su h) ?_
    intro v w h
    refine L_mv ?_
    refine L_mv ?_
    refine L_mv ?_
    refine L_u (N_cl Try.func63 rfl nn63 (fun w Q h => s63 _ _ _ _ _ w Q h) h) ?_
    intro v w h
    refine L_nil ?_
    show bodyPost Try.prog Try.f61 (Rt Q) .normal _ _
    exact post_tmps (ts := []) (.inl rfl) rfl h

/- slices.symMergeCmpFunc[factotum/api.Row] -/
def f59_b2 (j1 : Value → Value → Value → M) (self2 : Value → Value → Value → Value → Value → M) (t0_1 t1_1 t4_1 t10 t11 : Value) : M :=
  lt .i64 t10 t11 fun t33 =>
  cnd t33 (
    ad .i64 t10 t11 fun t36 =>
    cv .u64 t36 fun t37 =>
    shr .u64 .u64 t37 (.int .u64 1) fun t38 =>
    cv .i64 t38 fun t39 =>
    dr <|
    idv t4_1 fun t40 =>
    idv t0_1 fun t41 =>
    idv t39 fun t42 =>
    ia 1 t41 t42 fun t43 =>
    ld t43 fun t44 =>
    idv t0_1 fun t45 =>
    idv t1_1 fun t46 =>
    ia 1 t45 t46 fun t47 =>
    ld t47 fun t48 =>
    cf Try.prog t40 #[t44, t48] fun t49 =>
    lt .i64 t49 (.int .i64 0) fun t50 =>
    cnd t50 (
      ad .i64 t39 (.int .i64 1) fun t52 =>
      self2 t0_1 t1_1 t4_1 t52 t11
      ) (
      self2 t0_1 t1_1 t4_1 t10 t39
      )
    ) (
    j1 t0_1 t1_1 t10
    )
def f59_b3 (self3 : Value → Value → Value → M) (t0_3 t10_2 t13 : Value) : M :=
  su .i64 t10_2 (.int .i64 1) fun t57 =>
  lt .i64 t13 t57 fun t58 =>
  cnd t58 (
    dr <|
    idv t0_3 fun t61 =>
    idv t13 fun t62 =>
    idv t0_3 fun t63 =>
    idv t13 fun t64 =>
    ad .i64 t64 (.int .i64 1) fun t65 =>
    idv t0_3 fun t66 =>
    idv t13 fun t67 =>
    ad .i64 t67 (.int .i64 1) fun t68 =>
    ia 1 t66 t68 fun t69 =>
    ld t69 fun t70 =>
    idv t0_3 fun t71 =>
    idv t13 fun t72 =>
    ia 1 t71 t72 fun t73 =>
    ld t73 fun t74 =>
    ia 1 t61 t62 fun t75 =>
    st t75 t70 <|
    ia 1 t63 t65 fun t76 =>
    st t76 t74 <|
    ad .i64 t13 (.int .i64 1) fun t60 =>
    self3 t0_3 t10_2 t60
    ) (
    rt (.tuple #[])
    )
def f59_j1 (t0_2 t1_2 t10_1 : Value) : M :=
  lo (fun _ _ _ => bot) (f59_b3) (fun l => l t0_2 t10_1 t1_2)
def f59_b5 (j4 : Value → Value → Value → M) (self5 : Value → Value → Value → Value → Value → M) (t0_4 t2_1 t4_2 t14 t15 : Value) : M :=
  lt .i64 t14 t15 fun t85 =>
  cnd t85 (
    ad .i64 t14 t15 fun t88 =>
    cv .u64 t88 fun t89 =>
    shr .u64 .u64 t89 (.int .u64 1) fun t90 =>
    cv .i64 t90 fun t91 =>
    dr <|
    idv t4_2 fun t92 =>
    idv t0_4 fun t93 =>
    idv t2_1 fun t94 =>
    ia 1 t93 t94 fun t95 =>
    ld t95 fun t96 =>
    idv t0_4 fun t97 =>
    idv t91 fun t98 =>
    ia 1 t97 t98 fun t99 =>
    ld t99 fun t100 =>
    cf Try.prog t92 #[t96, t100] fun t101 =>
    lt .i64 t101 (.int .i64 0) fun t102 =>
    nt t102 fun t103 =>
    cnd t103 (
      ad .i64 t91 (.int .i64 1) fun t105 =>
      self5 t0_4 t2_1 t4_2 t105 t15
      ) (
      self5 t0_4 t2_1 t4_2 t14 t91
      )
    ) (
    j4 t0_4 t2_1 t14
    )
def f59_b6 (self6 : Value → Value → Value → M) (t0_6 t14_2 t17 : Value) : M :=
  gt .i64 t17 t14_2 fun t110 =>
  cnd t110 (
    dr <|
    idv t0_6 fun t113 =>
    idv t17 fun t114 =>
    idv t0_6 fun t115 =>
    idv t17 fun t116 =>
    su .i64 t116 (.int .i64 1) fun t117 =>
    idv t0_6 fun t118 =>
    idv t17 fun t119 =>
    su .i64 t119 (.int .i64 1) fun t120 =>
    ia 1 t118 t120 fun t121 =>
    ld t121 fun t122 =>
    idv t0_6 fun t123 =>
    idv t17 fun t124 =>
    ia 1 t123 t124 fun t125 =>
    ld t125 fun t126 =>
    ia 1 t113 t114 fun t127 =>
    st t127 t122 <|
    ia 1 t115 t117 fun t128 =>
    st t128 t126 <|
    su .i64 t17 (.int .i64 1) fun t112 =>
    self6 t0_6 t14_2 t112
    ) (
    rt (.tuple #[])
    )
def f59_j4 (t0_5 t2_2 t14_1 : Value) : M :=
  lo (fun _ _ _ => bot) (f59_b6) (fun l => l t0_5 t14_1 t2_2)
def f59_b9 (j8 : Value → Value → Value → Value → Value → Value → Value → Value → M) (self9 : Value → Value → Value → Value → Value → Value → Value → Value → Value → Value → M) (t0_8 t1_4 t2_4 t3_2 t4_4 t18_1 t19_1 t20_1 t21_1 t22 : Value) : M :=
  lt .i64 t20_1 t21_1 fun t151 =>
  cnd t151 (
    ad .i64 t20_1 t21_1 fun t154 =>
    cv .u64 t154 fun t155 =>
    shr .u64 .u64 t155 (.int .u64 1) fun t156 =>
    cv .i64 t156 fun t157 =>
    dr <|
    idv t4_4 fun t158 =>
    idv t0_8 fun t159 =>
    idv t22 fun t160 =>
    idv t157 fun t161 =>
    su .i64 t160 t161 fun t162 =>
    ia 1 t159 t162 fun t163 =>
    ld t163 fun t164 =>
    idv t0_8 fun t165 =>
    idv t157 fun t166 =>
    ia 1 t165 t166 fun t167 =>
    ld t167 fun t168 =>
    cf Try.prog t158 #[t164, t168] fun t169 =>
    lt .i64 t169 (.int .i64 0) fun t170 =>
    nt t170 fun t171 =>
    cnd t171 (
      ad .i64 t157 (.int .i64 1) fun t173 =>
      self9 t0_8 t1_4 t2_4 t3_2 t4_4 t18_1 t19_1 t173 t21_1 t22
      ) (
      self9 t0_8 t1_4 t2_4 t3_2 t4_4 t18_1 t19_1 t20_1 t157 t22
      )
    ) (
    j8 t0_8 t1_4 t2_4 t3_2 t4_4 t18_1 t19_1 t20_1
    )
def f59_j11 (t0_11 t3_5 t4_7 t18_4 t24_1 : Value) : M :=
  lt .i64 t18_4 t24_1 fun t208 =>
  gd t208 true (idv t24_1) fun t210 =>
  gd t208 true (idv t3_5) fun t211 =>
  gd t208 true (lt .i64 t210 t211) fun t212 =>
  pk t208 t212 (.bool false) fun t213 =>
  cnd t213 (
    cc Try.prog 59 #[t0_11, t18_4, t24_1, t3_5, t4_7] fun t219 =>
    rt (.tuple #[])
    ) (
    rt (.tuple #[])
    )
def f59_j10 (t0_10 t1_6 t3_4 t4_6 t18_3 t20_3 t24 : Value) : M :=
  lt .i64 t1_6 t20_3 fun t194 =>
  gd t194 true (idv t20_3) fun t196 =>
  gd t194 true (idv t18_3) fun t197 =>
  gd t194 true (lt .i64 t196 t197) fun t198 =>
  pk t194 t198 (.bool false) fun t199 =>
  jn (fun (j11 : Value → Value → Value → Value → Value → M) =>
    cnd t199 (
      cc Try.prog 59 #[t0_10, t1_6, t20_3, t18_3, t4_6] fun t205 =>
      j11 t0_10 t3_4 t4_6 t18_3 t24
      ) (
      j11 t0_10 t3_4 t4_6 t18_3 t24
      )
    ) (f59_j11)
def f59_j8 (t0_9 t1_5 t2_5 t3_3 t4_5 t18_2 t19_2 t20_2 : Value) : M :=
  su .i64 t19_2 t20_2 fun t177 =>
  lt .i64 t20_2 t2_5 fun t180 =>
  gd t180 true (idv t2_5) fun t182 =>
  gd t180 true (idv t177) fun t183 =>
  gd t180 true (lt .i64 t182 t183) fun t184 =>
  pk t180 t184 (.bool false) fun t185 =>
  jn (fun (j10 : Value → Value → Value → Value → Value → Value → Value → M) =>
    cnd t185 (
      cl (f61 t0_9 t20_2 t2_5 t177 t4_5) fun t191 =>
      j10 t0_9 t1_5 t3_3 t4_5 t18_2 t20_2 t177
      ) (
      j10 t0_9 t1_5 t3_3 t4_5 t18_2 t20_2 t177
      )
    ) (f59_j10)
def f59_j7 (t0_7 t1_3 t2_3 t3_1 t4_3 t18 t19 t20 t21 : Value) : M :=
  su .i64 t19 (.int .i64 1) fun t148 =>
  jn (fun (j8 : Value → Value → Value → Value → Value → Value → Value → Value → M) =>
    lo (fun _ _ _ _ _ _ _ _ _ _ => bot) (f59_b9 j8) (fun l => l t0_7 t1_3 t2_3 t3_1 t4_3 t18 t19 t20 t21 t148)
    ) (f59_j8)
def f59 (t0 t1 t2 t3 t4 : Value) : M :=
  su .i64 t2 t1 fun t27 =>
  eqi .i64 t27 (.int .i64 1) fun t28 =>
  cnd t28 (
    jn (fun (j1 : Value → Value → Value → M) =>
      lo (fun _ _ _ _ _ => bot) (f59_b2 j1) (fun l => l t0 t1 t4 t2 t3)
      ) (f59_j1)
    ) (
    su .i64 t3 t2 fun t79 =>
    eqi .i64 t79 (.int .i64 1) fun t80 =>
    cnd t80 (
      jn (fun (j4 : Value → Value → Value → M) =>
        lo (fun _ _ _ _ _ => bot) (f59_b5 j4) (fun l => l t0 t2 t4 t1 t2)
        ) (f59_j4)
      ) (
      ad .i64 t1 t3 fun t131 =>
      cv .u64 t131 fun t132 =>
      shr .u64 .u64 t132 (.int .u64 1) fun t133 =>
      cv .i64 t133 fun t134 =>
      ad .i64 t134 t2 fun t137 =>
      gt .i64 t2 t134 fun t140 =>
      jn (fun (j7 : Value → Value → Value → Value → Value → Value → Value → Value → Value → M) =>
        cnd t140 (
          su .i64 t137 t3 fun t143 =>
          j7 t0 t1 t2 t3 t4 t134 t137 t143 t134
          ) (
          j7 t0 t1 t2 t3 t4 t134 t137 t1 t2
          )
        ) (f59_j7)
      )
    )
theorem s59 (t0 t1 t2 t3 t4 : Value) (w : World) (Q : Value → World → Prop) (h : f59 t0 t1 t2 t3 t4 w Q) : Calls Try.prog 59 #[t0, t1, t2, t3, t4] w (Rt Q) := by
  refine calls_of (l := [t0, t1, t2, t3, t4]) Try.func59 rfl Try.ntmps59 (Nat.le_of_ble_eq_true rfl) ?_
  unfold f59 at h
  refine wp_seq ?_
  refine wp_seq ?_
  refine L_region ?_
  refine L_mv ?_
  refine L_mv ?_
  refine L_u (P_su h) ?_
  intro v w h
  refine L_u (P_eqi h) ?_
  intro v w h
  refine L_nil ?_
  refine E_n ?_
  refine C_cnd h (fun h => ?_) (fun h => ?_)
  · refine wp_seq ?_
    refine L_region ?_
    refine L_mv ?_
    refine L_as ?_
    refine L_nil ?_
    refine E_n ?_
    refine wp_seq ?_
    refine L_region ?_
    refine L_mv ?_
    refine L_as ?_
    refine L_nil ?_
    refine E_n ?_
    refine wp_seq ?_
    refine C_join (fun (k : Value → Value → Value → M) (ρ : Nat → Value) => k (ρ 0) (ρ 1) (ρ 10)) h (fun j1 J1 h => ?_) (fun ρ w h => ?_)
    · refine C_blk ?_
      refine C_lo (fun (l : Value → Value → Value → Value → Value → M) (ρ : Nat → Value) => l (ρ 0) (ρ 1) (ρ 4) (ρ 10) (ρ 11)) h (fun ρ w h => h) (fun nx self2 L2 ρ w h => ?_)
      unfold f59_b2 at h
      refine wp_seq ?_
      refine wp_seq ?_
      refine L_region ?_
      refine L_mv ?_
      refine L_mv ?_
      refine L_u (P_lt h) ?_
      intro v w h
      refine L_nil ?_
      refine E_n ?_
      refine C_cnd h (fun h => ?_) (fun h => ?_)
      · refine C_skip ?_
        refine E_n ?_
        refine C_blk ?_
        refine wp_seq ?_
        refine L_region ?_
        refine L_mv ?_
        refine L_mv ?_
        refine L_u (P_ad h) ?_
        intro v w h
        refine L_u (P_cv ai3 in74 h) ?_
        intro v w h
        refine L_u (P_shr h) ?_
        intro v w h
        refine L_u (P_cv ai74 in3 h) ?_
        intro v w h
        refine L_as ?_
        refine L_nil ?_
        refine E_n ?_
        refine wp_seq ?_
        refine D_region (by decide +kernel) 11 rfl ?_
        replace h := dr_e h
        refine G_p 0 rfl (by decide +kernel) (Y_mv h) ?_
        intro v h
        refine G_p 1 rfl (by decide +kernel) (Y_mv h) ?_
        intro v h
        refine G_p 2 rfl (by decide +kernel) (Y_mv h) ?_
        intro v h
        refine G_p 3 rfl (by decide +kernel) (Y_ia se22 h) ?_
        intro v h
        refine G_r _ 4 rfl (by decide +kernel) (R_ld sc33 h) ?_
        intro v h
        refine G_p 5 rfl (by decide +kernel) (Y_mv h) ?_
        intro v h
        refine G_p 6 rfl (by decide +kernel) (Y_mv h) ?_
        intro v h
        refine G_p 7 rfl (by decide +kernel) (Y_ia se22 h) ?_
        intro v h
        refine G_r _ 8 rfl (by decide +kernel) (R_ld sc33 h) ?_
        intro v h
        refine G_e 9 rfl (by decide +kernel) (N_cf h ?_)
        intro v w h
        refine ⟨keepF_dep [8] (by decide +kernel) rfl (keepF_dep [4] (by decide +kernel) rfl keepF_nil), ?_⟩
        refine G_p 10 rfl (by decide +kernel) (Y_lt h) ?_
        intro v h
        refine G_done (by decide +kernel) ?_
        refine E_n ?_
        refine C_cnd h (fun h => ?_) (fun h => ?_)
        · refine L_region ?_
          refine L_mv ?_
          refine L_u (P_ad h) ?_
          intro v w h
          refine L_as ?_
          refine L_nil ?_
          refine B_n ?_
          refine E_n ?_
          exact L2 _ _ h
        · refine L_region ?_
          refine L_mv ?_
          refine L_as ?_
          refine L_nil ?_
          refine B_n ?_
          refine E_n ?_
          exact L2 _ _ h
      · refine C_exit ?_
        refine E_x ?_
        refine E_x ?_
        refine B_x ?_
        exact J1 _ _ h
    · unfold f59_j1 at h
      refine E_n ?_
      refine wp_seq ?_
      refine wp_seq ?_
      refine L_region ?_
      refine L_mv ?_
      refine L_as ?_
      refine L_nil ?_
      refine E_n ?_
      refine C_blk ?_
      refine C_lo (fun (l : Value → Value → Value → M) (ρ : Nat → Value) => l (ρ 0) (ρ 10) (ρ 13)) h (fun ρ w h => h) (fun nx self3 L3 ρ w h => ?_)
      unfold f59_b3 at h
      refine wp_seq ?_
      refine wp_seq ?_
      refine L_region ?_
      refine L_mv ?_
      refine L_mv ?_
      refine L_u (P_su h) ?_
      intro v w h
      refine L_u (P_lt h) ?_
      intro v w h
      refine L_nil ?_
      refine E_n ?_
      refine C_cnd h (fun h => ?_) (fun h => ?_)
      · refine C_skip ?_
        refine E_n ?_
        refine wp_seq ?_
        refine C_blk ?_
        refine D_region (by decide +kernel) 18 rfl ?_
        replace h := dr_e h
        refine G_p 0 rfl (by decide +kernel) (Y_mv h) ?_
        intro v h
        refine G_p 1 rfl (by decide +kernel) (Y_mv h) ?_
        intro v h
        refine G_p 2 rfl (by decide +kernel) (Y_mv h) ?_
        intro v h
        refine G_p 3 rfl (by decide +kernel) (Y_mv h) ?_
        intro v h
        refine G_p 4 rfl (by decide +kernel) (Y_ad h) ?_
        intro v h
        refine G_p 5 rfl (by decide +kernel) (Y_mv h) ?_
        intro v h
        refine G_p 6 rfl (by decide +kernel) (Y_mv h) ?_
        intro v h
        refine G_p 7 rfl (by decide +kernel) (Y_ad h) ?_
        intro v h
        refine G_p 8 rfl (by decide +kernel) (Y_ia se22 h) ?_
        intro v h
        refine G_r _ 9 rfl (by decide +kernel) (R_ld sc33 h) ?_
        intro v h
        refine G_p 10 rfl (by decide +kernel) (Y_mv h) ?_
        intro v h
        refine G_p 11 rfl (by decide +kernel) (Y_mv h) ?_
        intro v h
        refine G_p 12 rfl (by decide +kernel) (Y_ia se22 h) ?_
        intro v h
        refine G_r _ 13 rfl (by decide +kernel) (R_ld sc33 h) ?_
        intro v h
        refine G_p 14 rfl (by decide +kernel) (Y_ia se22 h) ?_
        intro v h
        refine G_e 15 rfl (by decide +kernel) (P_st on33 h ?_)
        intro w h
        refine ⟨keepF_dep [13] (by decide +kernel) rfl (keepF_dep [9] (by decide +kernel) rfl keepF_nil), ?_⟩
        refine G_p 16 rfl (by decide +kernel) (Y_ia se22 h) ?_
        intro v h
        refine G_e 17 rfl (by decide +kernel) (P_st on33 h ?_)
        intro w h
        refine ⟨keepF_dep [13] (by decide +kernel) rfl (keepF_dep [9] (by decide +kernel) rfl keepF_nil), ?_⟩
        refine G_done (by decide +kernel) ?_
        refine B_n ?_
        refine E_n ?_
        refine L_region ?_
        refine L_mv ?_
        refine L_u (P_ad h) ?_
        intro v w h
        refine L_as ?_
        refine L_nil ?_
        refine E_n ?_
        exact L3 _ _ h
      · refine C_exit ?_
        refine E_x ?_
        refine E_x ?_
        refine B_x ?_
        refine E_n ?_
        refine C_ret ?_
        show bodyPost Try.prog Try.f59 (Rt Q) .ret _ _
        exact post_tmps (ts := []) (.inr rfl) rfl h
  · refine C_skip ?_
    refine E_n ?_
    refine wp_seq ?_
    refine wp_seq ?_
    refine L_region ?_
    refine L_mv ?_
    refine L_mv ?_
    refine L_u (P_su h) ?_
    intro v w h
    refine L_u (P_eqi h) ?_
    intro v w h
    refine L_nil ?_
    refine E_n ?_
    refine C_cnd h (fun h => ?_) (fun h => ?_)
    · refine wp_seq ?_
      refine L_region ?_
      refine L_mv ?_
      refine L_as ?_
      refine L_nil ?_
      refine E_n ?_
      refine wp_seq ?_
      refine L_region ?_
      refine L_mv ?_
      refine L_as ?_
      refine L_nil ?_
      refine E_n ?_
      refine wp_seq ?_
      refine C_join (fun (k : Value → Value → Value → M) (ρ : Nat → Value) => k (ρ 0) (ρ 2) (ρ 14)) h (fun j4 J4 h => ?_) (fun ρ w h => ?_)
      · refine C_blk ?_
        refine C_lo (fun (l : Value → Value → Value → Value → Value → M) (ρ : Nat → Value) => l (ρ 0) (ρ 2) (ρ 4) (ρ 14) (ρ 15)) h (fun ρ w h => h) (fun nx self5 L5 ρ w h => ?_)
        unfold f59_b5 at h
        refine wp_seq ?_
        refine wp_seq ?_
        refine L_region ?_
        refine L_mv ?_
        refine L_mv ?_
        refine L_u (P_lt h) ?_
        intro v w h
        refine L_nil ?_
        refine E_n ?_
        refine C_cnd h (fun h => ?_) (fun h => ?_)
        · refine C_skip ?_
          refine E_n ?_
          refine C_blk ?_
          refine wp_seq ?_
          refine L_region ?_
          refine L_mv ?_
          refine L_mv ?_
          refine L_u (P_ad h) ?_
          intro v w h
          refine L_u (P_cv ai3 in74 h) ?_
          intro v w h
          refine L_u (P_shr h) ?_
          intro v w h
          refine L_u (P_cv ai74 in3 h) ?_
          intro v w h
          refine L_as ?_
          refine L_nil ?_
          refine E_n ?_
          refine wp_seq ?_
          refine D_region (by decide +kernel) 12 rfl ?_
          replace h := dr_e h
          refine G_p 0 rfl (by decide +kernel) (Y_mv h) ?_
          intro v h
          refine G_p 1 rfl (by decide +kernel) (Y_mv h) ?_
          intro v h
          refine G_p 2 rfl (by decide +kernel) (Y_mv h) ?_
          intro v h
          refine G_p 3 rfl (by decide +kernel) (Y_ia se22 h) ?_
          intro v h
          refine G_r _ 4 rfl (by decide +kernel) (R_ld sc33 h) ?_
          intro v h
          refine G_p 5 rfl (by decide +kernel) (Y_mv h) ?_
          intro v h
          refine G_p 6 rfl (by decide +kernel) (Y_mv h) ?_
          intro v h
          refine G_p 7 rfl (by decide +kernel) (Y_ia se22 h) ?_
          intro v h
          refine G_r _ 8 rfl (by decide +kernel) (R_ld sc33 h) ?_
          intro v h
          refine G_e 9 rfl (by decide +kernel) (N_cf h ?_)
          intro v w h
          refine ⟨keepF_dep [8] (by decide +kernel) rfl (keepF_dep [4] (by decide +kernel) rfl keepF_nil), ?_⟩
          refine G_p 10 rfl (by decide +kernel) (Y_lt h) ?_
          intro v h
          refine G_p 11 rfl (by decide +kernel) (Y_nt h) ?_
          intro v h
          refine G_done (by decide +kernel) ?_
          refine E_n ?_
          refine C_cnd h (fun h => ?_) (fun h => ?_)
          · refine L_region ?_
            refine L_mv ?_
            refine L_u (P_ad h) ?_
            intro v w h
            refine L_as ?_
            refine L_nil ?_
            refine B_n ?_
            refine E_n ?_
            exact L5 _ _ h
          · refine L_region ?_
            refine L_mv ?_
            refine L_as ?_
            refine L_nil ?_
            refine B_n ?_
            refine E_n ?_
            exact L5 _ _ h
        · refine C_exit ?_
          refine E_x ?_
          refine E_x ?_
          refine B_x ?_
          exact J4 _ _ h
      · unfold f59_j4 at h
        refine E_n ?_
        refine wp_seq ?_
        refine wp_seq ?_
        refine L_region ?_
        refine L_mv ?_
        refine L_as ?_
        refine L_nil ?_
        refine E_n ?_
        refine C_blk ?_
        refine C_lo (fun (l : Value → Value → Value → M) (ρ : Nat → Value) => l (ρ 0) (ρ 14) (ρ 17)) h (fun ρ w h => h) (fun nx self6 L6 ρ w h => ?_)
        unfold f59_b6 at h
        refine wp_seq ?_
        refine wp_seq ?_
        refine L_region ?_
        refine L_mv ?_
        refine L_mv ?_
        refine L_u (P_gt h) ?_
        intro v w h
        refine L_nil ?_
        refine E_n ?_
        refine C_cnd h (fun h => ?_) (fun h => ?_)
        · refine C_skip ?_
          refine E_n ?_
          refine wp_seq ?_
          refine C_blk ?_
          refine D_region (by decide +kernel) 18 rfl ?_
          replace h := dr_e h
          refine G_p 0 rfl (by decide +kernel) (Y_mv h) ?_
          intro v h
          refine G_p 1 rfl (by decide +kernel) (Y_mv h) ?_
          intro v h
          refine G_p 2 rfl (by decide +kernel) (Y_mv h) ?_
          intro v h
          refine G_p 3 rfl (by decide +kernel) (Y_mv h) ?_
          intro v h
          refine G_p 4 rfl (by decide +kernel) (Y_su h) ?_
          intro v h
          refine G_p 5 rfl (by decide +kernel) (Y_mv h) ?_
          intro v h
          refine G_p 6 rfl (by decide +kernel) (Y_mv h) ?_
          intro v h
          refine G_p 7 rfl (by decide +kernel) (Y_su h) ?_
          intro v h
          refine G_p 8 rfl (by decide +kernel) (Y_ia se22 h) ?_
          intro v h
          refine G_r _ 9 rfl (by decide +kernel) (R_ld sc33 h) ?_
          intro v h
          refine G_p 10 rfl (by decide +kernel) (Y_mv h) ?_
          intro v h
          refine G_p 11 rfl (by decide +kernel) (Y_mv h) ?_
          intro v h
          refine G_p 12 rfl (by decide +kernel) (Y_ia se22 h) ?_
          intro v h
          refine G_r _ 13 rfl (by decide +kernel) (R_ld sc33 h) ?_
          intro v h
          refine G_p 14 rfl (by decide +kernel) (Y_ia se22 h) ?_
          intro v h
          refine G_e 15 rfl (by decide +kernel) (P_st on33 h ?_)
          intro w h
          refine ⟨keepF_dep [13] (by decide +kernel) rfl (keepF_dep [9] (by decide +kernel) rfl keepF_nil), ?_⟩
          refine G_p 16 rfl (by decide +kernel) (Y_ia se22 h) ?_
          intro v h
          refine G_e 17 rfl (by decide +kernel) (P_st on33 h ?_)
          intro w h
          refine ⟨keepF_dep [13] (by decide +kernel) rfl (keepF_dep [9] (by decide +kernel) rfl keepF_nil), ?_⟩
          refine G_done (by decide +kernel) ?_
          refine B_n ?_
          refine E_n ?_
          refine L_region ?_
          refine L_mv ?_
          refine L_u (P_su h) ?_
          intro v w h
          refine L_as ?_
          refine L_nil ?_
          refine E_n ?_
          exact L6 _ _ h
        · refine C_exit ?_
          refine E_x ?_
          refine E_x ?_
          refine B_x ?_
          refine E_n ?_
          refine C_ret ?_
          show bodyPost Try.prog Try.f59 (Rt Q) .ret _ _
          exact post_tmps (ts := []) (.inr rfl) rfl h
    · refine C_skip ?_
      refine E_n ?_
      refine wp_seq ?_
      refine L_region ?_
      refine L_mv ?_
      refine L_mv ?_
      refine L_u (P_ad h) ?_
      intro v w h
      refine L_u (P_cv ai3 in74 h) ?_
      intro v w h
      refine L_u (P_shr h) ?_
      intro v w h
      refine L_u (P_cv ai74 in3 h) ?_
      intro v w h
      refine L_as ?_
      refine L_nil ?_
      refine E_n ?_
      refine wp_seq ?_
      refine L_region ?_
      refine L_mv ?_
      refine L_mv ?_
      refine L_u (P_ad h) ?_
      intro v w h
      refine L_as ?_
      refine L_nil ?_
      refine E_n ?_
      refine wp_seq ?_
      refine L_region ?_
      refine L_as ?_
      refine L_as ?_
      refine L_nil ?_
      refine E_n ?_
      refine wp_seq ?_
      refine wp_seq ?_
      refine L_region ?_
      refine L_mv ?_
      refine L_mv ?_
      refine L_u (P_gt h) ?_
      intro v w h
      refine L_nil ?_
      refine E_n ?_
      refine C_join (fun (k : Value → Value → Value → Value → Value → Value → Value → Value → Value → M) (ρ : Nat → Value) => k (ρ 0) (ρ 1) (ρ 2) (ρ 3) (ρ 4) (ρ 18) (ρ 19) (ρ 20) (ρ 21)) h (fun j7 J7 h => ?_) (fun ρ w h => ?_)
      · refine C_cnd h (fun h => ?_) (fun h => ?_)
        · refine wp_seq ?_
          refine L_region ?_
          refine L_mv ?_
          refine L_mv ?_
          refine L_u (P_su h) ?_
          intro v w h
          refine L_as ?_
          refine L_nil ?_
          refine E_n ?_
          refine L_region ?_
          refine L_mv ?_
          refine L_as ?_
          refine L_nil ?_
          exact J7 _ _ h
        · refine wp_seq ?_
          refine L_region ?_
          refine L_mv ?_
          refine L_as ?_
          refine L_nil ?_
          refine E_n ?_
          refine L_region ?_
          refine L_mv ?_
          refine L_as ?_
          refine L_nil ?_
          exact J7 _ _ h
      · unfold f59_j7 at h
        refine E_n ?_
        refine wp_seq ?_
        refine L_region ?_
        refine L_mv ?_
        refine L_u (P_su h) ?_
        intro v w h
        refine L_as ?_
        refine L_nil ?_
        refine E_n ?_
        refine wp_seq ?_
        refine C_join (fun (k : Value → Value → Value → Value → Value → Value → Value → Value → M) (ρ : Nat → Value) => k (ρ 0) (ρ 1) (ρ 2) (ρ 3) (ρ 4) (ρ 18) (ρ 19) (ρ 20)) h (fun j8 J8 h => ?_) (fun ρ w h => ?_)
        · refine C_blk ?_
          refine C_lo (fun (l : Value → Value → Value → Value → Value → Value → Value → Value → Value → Value → M) (ρ : Nat → Value) => l (ρ 0) (ρ 1) (ρ 2) (ρ 3) (ρ 4) (ρ 18) (ρ 19) (ρ 20) (ρ 21) (ρ 22)) h (fun ρ w h => h) (fun nx self9 L9 ρ w h => ?_)
          unfold f59_b9 at h
          refine wp_seq ?_
          refine wp_seq ?_
          refine L_region ?_
          refine L_mv ?_
          refine L_mv ?_
          refine L_u (P_lt h) ?_
          intro v w h
          refine L_nil ?_
          refine E_n ?_
          refine C_cnd h (fun h => ?_) (fun h => ?_)
          · refine C_skip ?_
            refine E_n ?_
            refine C_blk ?_
            refine wp_seq ?_
            refine L_region ?_
            refine L_mv ?_
            refine L_mv ?_
            refine L_u (P_ad h) ?_
            intro v w h
            refine L_u (P_cv ai3 in74 h) ?_
            intro v w h
            refine L_u (P_shr h) ?_
            intro v w h
            refine L_u (P_cv ai74 in3 h) ?_
            intro v w h
            refine L_as ?_
            refine L_nil ?_
            refine E_n ?_
            refine wp_seq ?_
            refine D_region (by decide +kernel) 14 rfl ?_
            replace h := dr_e h
            refine G_p 0 rfl (by decide +kernel) (Y_mv h) ?_
            intro v h
            refine G_p 1 rfl (by decide +kernel) (Y_mv h) ?_
            intro v h
            refine G_p 2 rfl (by decide +kernel) (Y_mv h) ?_
            intro v h
            refine G_p 3 rfl (by decide +kernel) (Y_mv h) ?_
            intro v h
            refine G_p 4 rfl (by decide +kernel) (Y_su h) ?_
            intro v h
            refine G_p 5 rfl (by decide +kernel) (Y_ia se22 h) ?_
            intro v h
            refine G_r _ 6 rfl (by decide +kernel) (R_ld sc33 h) ?_
            intro v h
            refine G_p 7 rfl (by decide +kernel) (Y_mv h) ?_
            intro v h
            refine G_p 8 rfl (by decide +kernel) (Y_mv h) ?_
            intro v h
            refine G_p 9 rfl (by decide +kernel) (Y_ia se22 h) ?_
            intro v h
            refine G_r _ 10 rfl (by decide +kernel) (R_ld sc33 h) ?_
            intro v h
            refine G_e 11 rfl (by decide +kernel) (N_cf h ?_)
            intro v w h
            refine ⟨keepF_dep [10] (by decide +kernel) rfl (keepF_dep [6] (by decide +kernel) rfl keepF_nil), ?_⟩
            refine G_p 12 rfl (by decide +kernel) (Y_lt h) ?_
            intro v h
            refine G_p 13 rfl (by decide +kernel) (Y_nt h) ?_
            intro v h
            refine G_done (by decide +kernel) ?_
            refine E_n ?_
            refine C_cnd h (fun h => ?_) (fun h => ?_)
            · refine L_region ?_
              refine L_mv ?_
              refine L_u (P_ad h) ?_
              intro v w h
              refine L_as ?_
              refine L_nil ?_
              refine B_n ?_
              refine E_n ?_
              exact L9 _ _ h
            · refine L_region ?_
              refine L_mv ?_
              refine L_as ?_
              refine L_nil ?_
              refine B_n ?_
              refine E_n ?_
              exact L9 _ _ h
          · refine C_exit ?_
            refine E_x ?_
            refine E_x ?_
            refine B_x ?_
            exact J8 _ _ h
        · unfold f59_j8 at h
          refine E_n ?_
          refine wp_seq ?_
          refine L_region ?_
          refine L_mv ?_
          refine L_mv ?_
          refine L_u (P_su h) ?_
          intro v w h
          refine L_as ?_
          refine L_nil ?_
          refine E_n ?_
          refine wp_seq ?_
          refine wp_seq ?_
          refine L_region ?_
          refine L_mv ?_
          refine L_mv ?_
          refine L_u (P_lt h) ?_
          intro v w h
          refine L_mv ?_
          refine L_g (t := 181) h rfl rfl (fun c h => P_mv h c) ?_
          intro v w h
          refine L_g (t := 181) h rfl rfl (fun c h => P_mv h c) ?_
          intro v w h
          refine L_g (t := 181) h rfl rfl (fun c h => P_lt h c) ?_
          intro v w h
          refine L_u (P_pk h) ?_
          intro v w h
          refine L_nil ?_
          refine E_n ?_
          refine C_join (fun (k : Value → Value → Value → Value → Value → Value → Value → M) (ρ : Nat → Value) => k (ρ 0) (ρ 1) (ρ 3) (ρ 4) (ρ 18) (ρ 20) (ρ 24)) h (fun j10 J10 h => ?_) (fun ρ w h => ?_)
          · refine C_cnd h (fun h => ?_) (fun h => ?_)
            · refine L_region ?_
              refine L_mv ?_
              refine L_mv ?_
              refine L_mv ?_
              refine L_mv ?_
              refine L_mv ?_
              refine L_u (N_cl Try.func61 rfl nn61 (fun w Q h => s61 _ _ _ _ _ w Q h) h) ?_
              intro v w h
              refine L_nil ?_
              exact J10 _ _ h
            · refine C_skip ?_
              exact J10 _ _ h
          · unfold f59_j10 at h
            refine E_n ?_
            refine wp_seq ?_
            refine wp_seq ?_
            refine L_region ?_
            refine L_mv ?_
            refine L_mv ?_
            refine L_u (P_lt h) ?_
            intro v w h
            refine L_mv ?_
            refine L_g (t := 195) h rfl rfl (fun c h => P_mv h c) ?_
            intro v w h
            refine L_g (t := 195) h rfl rfl (fun c h => P_mv h c) ?_
            intro v w h
            refine L_g (t := 195) h rfl rfl (fun c h => P_lt h c) ?_
            intro v w h
            refine L_u (P_pk h) ?_
            intro v w h
            refine L_nil ?_
            refine E_n ?_
            refine C_join (fun (k : Value → Value → Value → Value → Value → M) (ρ : Nat → Value) => k (ρ 0) (ρ 3) (ρ 4) (ρ 18) (ρ 24)) h (fun j11 J11 h => ?_) (fun ρ w h => ?_)
            · refine C_cnd h (fun h => ?_) (fun h => ?_)
              · refine L_region ?_
                refine L_mv ?_
                refine L_mv ?_
                refine L_mv ?_
                refine L_mv ?_
                refine L_mv ?_
                refine L_u (N_cc Try.func59 rfl nn59 h) ?_
                intro v w h
                refine L_nil ?_
                exact J11 _ _ h
              · refine C_skip ?_
                exact J11 _ _ h
            · unfold f59_j11 at h
              refine E_n ?_
              refine wp_seq ?_
              refine L_region ?_
              refine L_mv ?_
              refine L_mv ?_
              refine L_u (P_lt h) ?_
              intro v w h
              refine L_mv ?_
              refine L_g (t := 209) h rfl rfl (fun c h => P_mv h c) ?_
              intro v w h
              refine L_g (t := 209) h rfl rfl (fun c h => P_mv h c) ?_
              intro v w h
              refine L_g (t := 209) h rfl rfl (fun c h => P_lt h c) ?_
              intro v w h
              refine L_u (P_pk h) ?_
              intro v w h
              refine L_nil ?_
              refine E_n ?_
              refine C_cnd h (fun h => ?_) (fun h => ?_)
              · refine L_region ?_
                refine L_mv ?_
                refine L_mv ?_
                refine L_mv ?_
                refine L_mv ?_
                refine L_mv ?_
                refine L_u (N_cc Try.func59 rfl nn59 h) ?_
                intro v w h
                refine L_nil ?_
                show bodyPost Try.prog Try.f59 (Rt Q) .normal _ _
                exact post_tmps (ts := []) (.inl rfl) rfl h
              · refine C_skip ?_
                show bodyPost Try.prog Try.f59 (Rt Q) .normal _ _
                exact post_tmps (ts := []) (.inl rfl) rfl h

/- slices.stableCmpFunc[factotum/api.Row] -/
def f52_b2 (j1 : Value → Value → Value → Value → Value → M) (self2 : Value → Value → Value → Value → Value → Value → M) (t0_1 t1_1 t2_1 t6 t7 t8 : Value) : M :=
  le .i64 t8 t1_1 fun t13 =>
  cnd t13 (
    cl (f58 t0_1 t7 t8 t2_1) fun t18 =>
    ad .i64 t8 t6 fun t22 =>
    self2 t0_1 t1_1 t2_1 t6 t8 t22
    ) (
    j1 t0_1 t1_1 t2_1 t6 t7
    )
def f52_b5 (j4 : Value → Value → Value → Value → Value → M) (self5 : Value → Value → Value → Value → Value → Value → M) (t0_4 t1_4 t2_4 t6_3 t7_2 t8_1 : Value) : M :=
  le .i64 t8_1 t1_4 fun t35 =>
  cnd t35 (
    ad .i64 t7_2 t6_3 fun t40 =>
    cl (f59 t0_4 t7_2 t40 t8_1 t2_4) fun t43 =>
    mu .i64 (.int .i64 2) t6_3 fun t47 =>
    ad .i64 t8_1 t47 fun t48 =>
    self5 t0_4 t1_4 t2_4 t6_3 t8_1 t48
    ) (
    j4 t0_4 t1_4 t2_4 t6_3 t7_2
    )
def f52_j6 (self3 : Value → Value → Value → Value → M) (t0_6 t1_6 t2_6 t6_5 : Value) : M :=
  mu .i64 t6_5 (.int .i64 2) fun t62 =>
  self3 t0_6 t1_6 t2_6 t62
def f52_j4 (self3 : Value → Value → Value → Value → M) (t0_5 t1_5 t2_5 t6_4 t7_3 : Value) : M :=
  ad .i64 t7_3 t6_4 fun t51 =>
  lt .i64 t51 t1_5 fun t54 =>
  jn (fun (j6 : Value → Value → Value → Value → M) =>
    cnd t54 (
      cl (f59 t0_5 t7_3 t51 t1_5 t2_5) fun t60 =>
      j6 t0_5 t1_5 t2_5 t6_4
      ) (
      j6 t0_5 t1_5 t2_5 t6_4
      )
    ) (f52_j6 self3)
def f52_b3 (self3 : Value → Value → Value → Value → M) (t0_3 t1_3 t2_3 t6_2 : Value) : M :=
  lt .i64 t6_2 t1_3 fun t30 =>
  cnd t30 (
    mu .i64 (.int .i64 2) t6_2 fun t32 =>
    jn (fun (j4 : Value → Value → Value → Value → Value → M) =>
      lo (fun _ _ _ _ _ _ => bot) (f52_b5 j4) (fun l => l t0_3 t1_3 t2_3 t6_2 (.int .i64 0) t32)
      ) (f52_j4 self3)
    ) (
    rt (.tuple #[])
    )
def f52_j1 (t0_2 t1_2 t2_2 t6_1 t7_1 : Value) : M :=
  cl (f58 t0_2 t7_1 t1_2 t2_2) fun t27 =>
  lo (fun _ _ _ _ => bot) (f52_b3) (fun l => l t0_2 t1_2 t2_2 t6_1)
def f52 (t0 t1 t2 : Value) : M :=
  jn (fun (j1 : Value → Value → Value → Value → Value → M) =>
    lo (fun _ _ _ _ _ _ => bot) (f52_b2 j1) (fun l => l t0 t1 t2 (.int .i64 20) (.int .i64 0) (.int .i64 20))
    ) (f52_j1)
theorem s52 (t0 t1 t2 : Value) (w : World) (Q : Value → World → Prop) (h : f52 t0 t1 t2 w Q) : Calls Try.prog 52 #[t0, t1, t2] w (Rt Q) := by
  refine calls_of (l := [t0, t1, t2]) Try.func52 rfl Try.ntmps52 (Nat.le_of_ble_eq_true rfl) ?_
  unfold f52 at h
  refine wp_seq ?_
  refine L_region ?_
  refine L_as ?_
  refine L_nil ?_
  refine E_n ?_
  refine wp_seq ?_
  refine L_region ?_
  refine L_mv ?_
  refine L_as ?_
  refine L_as ?_
  refine L_nil ?_
  refine E_n ?_
  refine wp_seq ?_
  refine C_join (fun (k : Value → Value → Value → Value → Value → M) (ρ : Nat → Value) => k (ρ 0) (ρ 1) (ρ 2) (ρ 6) (ρ 7)) h (fun j1 J1 h => ?_) (fun ρ w h => ?_)
  · refine C_blk ?_
    refine C_lo (fun (l : Value → Value → Value → Value → Value → Value → M) (ρ : Nat → Value) => l (ρ 0) (ρ 1) (ρ 2) (ρ 6) (ρ 7) (ρ 8)) h (fun ρ w h => h) (fun nx self2 L2 ρ w h => ?_)
    unfold f52_b2 at h
    refine wp_seq ?_
    refine wp_seq ?_
    refine L_region ?_
    refine L_mv ?_
    refine L_mv ?_
    refine L_u (P_le h) ?_
    intro v w h
    refine L_nil ?_
    refine E_n ?_
    refine C_cnd h (fun h => ?_) (fun h => ?_)
    · refine C_skip ?_
      refine E_n ?_
      refine C_blk ?_
      refine wp_seq ?_
      refine L_region ?_
      refine L_mv ?_
      refine L_mv ?_
      refine L_mv ?_
      refine L_mv ?_
      refine L_u (N_cl Try.func58 rfl nn58 (fun w Q h => s58 _ _ _ _ w Q h) h) ?_
      intro v w h
      refine L_nil ?_
      refine E_n ?_
      refine wp_seq ?_
      refine L_region ?_
      refine L_mv ?_
      refine L_as ?_
      refine L_nil ?_
      refine E_n ?_
      refine L_region ?_
      refine L_mv ?_
      refine L_mv ?_
      refine L_u (P_ad h) ?_
      intro v w h
      refine L_as ?_
      refine L_nil ?_
      refine B_n ?_
      refine E_n ?_
      exact L2 _ _ h
    · refine C_exit ?_
      refine E_x ?_
      refine E_x ?_
      refine B_x ?_
      exact J1 _ _ h
  · unfold f52_j1 at h
    refine E_n ?_
    refine wp_seq ?_
    refine L_region ?_
    refine L_mv ?_
    refine L_mv ?_
    refine L_mv ?_
    refine L_mv ?_
    refine L_u (N_cl Try.func58 rfl nn58 (fun w Q h => s58 _ _ _ _ w Q h) h) ?_
    intro v w h
    refine L_nil ?_
    refine E_n ?_
    refine C_blk ?_
    refine C_lo (fun (l : Value → Value → Value → Value → M) (ρ : Nat → Value) => l (ρ 0) (ρ 1) (ρ 2) (ρ 6)) h (fun ρ w h => h) (fun nx self3 L3 ρ w h => ?_)
    unfold f52_b3 at h
    refine wp_seq ?_
    refine wp_seq ?_
    refine L_region ?_
    refine L_mv ?_
    refine L_mv ?_
    refine L_u (P_lt h) ?_
    intro v w h
    refine L_nil ?_
    refine E_n ?_
    refine C_cnd h (fun h => ?_) (fun h => ?_)
    · refine C_skip ?_
      refine E_n ?_
      refine C_blk ?_
      refine wp_seq ?_
      refine L_region ?_
      refine L_mv ?_
      refine L_u (P_mu h) ?_
      intro v w h
      refine L_as ?_
      refine L_as ?_
      refine L_nil ?_
      refine E_n ?_
      refine wp_seq ?_
      refine C_join (fun (k : Value → Value → Value → Value → Value → M) (ρ : Nat → Value) => k (ρ 0) (ρ 1) (ρ 2) (ρ 6) (ρ 7)) h (fun j4 J4 h => ?_) (fun ρ w h => ?_)
      · refine C_blk ?_
        refine C_lo (fun (l : Value → Value → Value → Value → Value → Value → M) (ρ : Nat → Value) => l (ρ 0) (ρ 1) (ρ 2) (ρ 6) (ρ 7) (ρ 8)) h (fun ρ w h => h) (fun nx self5 L5 ρ w h => ?_)
        unfold f52_b5 at h
        refine wp_seq ?_
        refine wp_seq ?_
        refine L_region ?_
        refine L_mv ?_
        refine L_mv ?_
        refine L_u (P_le h) ?_
        intro v w h
        refine L_nil ?_
        refine E_n ?_
        refine C_cnd h (fun h => ?_) (fun h => ?_)
        · refine C_skip ?_
          refine E_n ?_
          refine C_blk ?_
          refine wp_seq ?_
          refine L_region ?_
          refine L_mv ?_
          refine L_mv ?_
          refine L_mv ?_
          refine L_mv ?_
          refine L_u (P_ad h) ?_
          intro v w h
          refine L_mv ?_
          refine L_mv ?_
          refine L_u (N_cl Try.func59 rfl nn59 (fun w Q h => s59 _ _ _ _ _ w Q h) h) ?_
          intro v w h
          refine L_nil ?_
          refine E_n ?_
          refine wp_seq ?_
          refine L_region ?_
          refine L_mv ?_
          refine L_as ?_
          refine L_nil ?_
          refine E_n ?_
          refine L_region ?_
          refine L_mv ?_
          refine L_mv ?_
          refine L_u (P_mu h) ?_
          intro v w h
          refine L_u (P_ad h) ?_
          intro v w h
          refine L_as ?_
          refine L_nil ?_
          refine B_n ?_
          refine E_n ?_
          exact L5 _ _ h
        · refine C_exit ?_
          refine E_x ?_
          refine E_x ?_
          refine B_x ?_
          exact J4 _ _ h
      · unfold f52_j4 at h
        refine E_n ?_
        refine wp_seq ?_
        refine wp_seq ?_
        refine L_region ?_
        refine L_mv ?_
        refine L_mv ?_
        refine L_u (P_ad h) ?_
        intro v w h
        refine L_as ?_
        refine L_nil ?_
        refine E_n ?_
        refine wp_seq ?_
        refine L_region ?_
        refine L_mv ?_
        refine L_mv ?_
        refine L_u (P_lt h) ?_
        intro v w h
        refine L_nil ?_
        refine E_n ?_
        refine C_join (fun (k : Value → Value → Value → Value → M) (ρ : Nat → Value) => k (ρ 0) (ρ 1) (ρ 2) (ρ 6)) h (fun j6 J6 h => ?_) (fun ρ w h => ?_)
        · refine C_cnd h (fun h => ?_) (fun h => ?_)
          · refine L_region ?_
            refine L_mv ?_
            refine L_mv ?_
            refine L_mv ?_
            refine L_mv ?_
            refine L_mv ?_
            refine L_u (N_cl Try.func59 rfl nn59 (fun w Q h => s59 _ _ _ _ _ w Q h) h) ?_
            intro v w h
            refine L_nil ?_
            exact J6 _ _ h
          · refine C_skip ?_
            exact J6 _ _ h
        · unfold f52_j6 at h
          refine E_n ?_
          refine L_region ?_
          refine L_mv ?_
          refine L_u (P_mu h) ?_
          intro v w h
          refine L_as ?_
          refine L_nil ?_
          refine B_n ?_
          refine E_n ?_
          exact L3 _ _ h
    · refine C_exit ?_
      refine E_x ?_
      refine E_x ?_
      refine B_x ?_
      show bodyPost Try.prog Try.f52 (Rt Q) .normal _ _
      exact post_tmps (ts := []) (.inl rfl) rfl h

/- slices.SortStableFunc[[]factotum/api.Row,factotum/api.Row] -/
def f39 (t0 t1 : Value) : M :=
  lnl t0 fun t6 =>
  cl (f52 t0 t6 t1) fun t8 =>
  rt (.tuple #[])
theorem s39 (t0 t1 : Value) (w : World) (Q : Value → World → Prop) (h : f39 t0 t1 w Q) : Calls Try.prog 39 #[t0, t1] w (Rt Q) := by
  refine calls_of (l := [t0, t1]) Try.func39 rfl Try.ntmps39 (Nat.le_of_ble_eq_true rfl) ?_
  unfold f39 at h
  refine L_region ?_
  refine L_mv ?_
  refine L_mv ?_
  refine L_u (P_lnl is22 h) ?_
  intro v w h
  refine L_mv ?_
  refine L_u (N_cl Try.func52 rfl nn52 (fun w Q h => s52 _ _ _ w Q h) h) ?_
  intro v w h
  refine L_nil ?_
  show bodyPost Try.prog Try.f39 (Rt Q) .normal _ _
  exact post_tmps (ts := []) (.inl rfl) rfl h

/- factotum/relate.Sort$2 -/
def f40 (t0 t1 t2 : Value) : M :=
  dr <|
  idv t0 fun t6 =>
  ld t2 fun t7 =>
  ia 3 t6 t7 fun t8 =>
  ldn 3 t8 fun t9 =>
  idv t1 fun t10 =>
  ld t2 fun t11 =>
  ia 3 t10 t11 fun t12 =>
  ldn 3 t12 fun t13 =>
  cl (f35 t9 t13) fun t14 =>
  idv t14 fun t5 =>
  rt t5
theorem s40 (t0 t1 t2 : Value) (w : World) (Q : Value → World → Prop) (h : f40 t0 t1 t2 w Q) : Calls Try.prog 40 #[t0, t1, t2] w (Rt Q) := by
  refine calls_of (l := [t0, t1, t2]) Try.func40 rfl Try.ntmps40 (Nat.le_of_ble_eq_true rfl) ?_
  unfold f40 at h
  refine wp_seq ?_
  refine L_region ?_
  refine L_as ?_
  refine L_nil ?_
  refine E_n ?_
  refine wp_seq ?_
  refine D_region (by decide +kernel) 10 rfl ?_
  replace h := dr_e h
  refine G_p 0 rfl (by decide +kernel) (Y_mv h) ?_
  intro v h
  refine G_r _ 1 rfl (by decide +kernel) (R_ld sc3 h) ?_
  intro v h
  refine G_p 2 rfl (by decide +kernel) (Y_ia se33 h) ?_
  intro v h
  refine G_r _ 3 rfl (by decide +kernel) (R_ldn ag31 h) ?_
  intro v h
  refine G_p 4 rfl (by decide +kernel) (Y_mv h) ?_
  intro v h
  refine G_r _ 5 rfl (by decide +kernel) (R_ld sc3 h) ?_
  intro v h
  refine G_p 6 rfl (by decide +kernel) (Y_ia se33 h) ?_
  intro v h
  refine G_r _ 7 rfl (by decide +kernel) (R_ldn ag31 h) ?_
  intro v h
  refine G_e 8 rfl (by decide +kernel) (N_cl Try.func35 rfl nn35 (fun w Q h => s35 _ _ w Q h) h ?_)
  intro v w h
  refine ⟨keepF_dep [7] (by decide +kernel) rfl (keepF_dep [7, 6, 5] (by decide +kernel) rfl (keepF_dep [3] (by decide +kernel) rfl (keepF_dep [3, 2, 1] (by decide +kernel) rfl keepF_nil))), ?_⟩
  refine G_p 9 rfl (by decide +kernel) (Y_as h) ?_
  intro v h
  refine G_done (by decide +kernel) ?_
  refine E_n ?_
  refine C_ret ?_
  show bodyPost Try.prog Try.f40 (Rt Q) .ret _ _
  exact post_tmps (ts := [5]) (.inr rfl) rfl h

/- factotum/relate.Sort -/
def f20 (t0 t1 : Value) : M :=
  bx 3 t1 fun t3 =>
  ld t3 fun t8 =>
  cl (f26 t0 t8) fun t9 =>
  cnd t9 (
    rt (.tuple #[(.slice none 0 0), (.int .i64 7)])
    ) (
    cl (f32 t0 (.func (.func 38) #[] #[])) fun t11 =>
    idv (.func (.func 40) #[] #[t3]) fun t13 =>
    cl (f39 t11 t13) fun t14 =>
    rt (.tuple #[t11, (.int .i64 0)])
    )
theorem s20 (t0 t1 : Value) (w : World) (Q : Value → World → Prop) (h : f20 t0 t1 w Q) : Calls Try.prog 20 #[t0, t1] w (Rt Q) := by
  refine calls_of (l := [t0, t1]) Try.func20 rfl Try.ntmps20 (Nat.le_of_ble_eq_true rfl) ?_
  unfold f20 at h
  refine wp_seq ?_
  refine L_region ?_
  refine L_u (P_bx h) ?_
  intro v w h
  refine L_as ?_
  refine L_as ?_
  refine L_nil ?_
  refine E_n ?_
  refine wp_seq ?_
  refine wp_seq ?_
  refine L_region ?_
  refine L_mv ?_
  refine L_u (P_ld sc3 h) ?_
  intro v w h
  refine L_u (N_cl Try.func26 rfl nn26 (fun w Q h => s26 _ _ w Q h) h) ?_
  intro v w h
  refine L_nil ?_
  refine E_n ?_
  refine C_cnd h (fun h => ?_) (fun h => ?_)
  · refine wp_seq ?_
    refine L_region ?_
    refine L_as ?_
    refine L_as ?_
    refine L_nil ?_
    refine E_n ?_
    refine C_ret ?_
    show bodyPost Try.prog Try.f20 (Rt Q) .ret _ _
    exact post_tmps (ts := [4, 5]) (.inr rfl) rfl h
  · refine C_skip ?_
    refine E_n ?_
    refine wp_seq ?_
    refine L_region ?_
    refine L_mv ?_
    refine L_u (N_cl Try.func32 rfl nn32 (fun w Q h => s32 _ _ w Q h) h) ?_
    intro v w h
    refine L_as ?_
    refine L_nil ?_
    refine E_n ?_
    refine wp_seq ?_
    refine L_region ?_
    refine L_mv ?_
    refine L_u (N_mf h) ?_
    intro v w h
    refine L_u (N_cl Try.func39 rfl nn39 (fun w Q h => s39 _ _ w Q h) h) ?_
    intro v w h
    refine L_nil ?_
    refine E_n ?_
    refine wp_seq ?_
    refine L_region ?_
    refine L_mv ?_
    refine L_as ?_
    refine L_as ?_
    refine L_nil ?_
    refine E_n ?_
    refine C_ret ?_
    show bodyPost Try.prog Try.f20 (Rt Q) .ret _ _
    exact post_tmps (ts := [4, 5]) (.inr rfl) rfl h

/- factotum/factotumlaw31.RelateSort -/
def f6_j7 (self5 : Value → Value → Value → Value → Value → Value → Value → Value → M) (t0_5 t1_5 t5_4 t7_4 t8_4 t9_4 t10_2 t11_2 : Value) : M :=
  ad .i64 t11_2 (.int .i64 1) fun t67 =>
  self5 t0_5 t1_5 t5_4 t7_4 t8_4 t9_4 t10_2 t67
def f6_j6 (self5 : Value → Value → Value → Value → Value → Value → Value → Value → M) (t0_4 t1_4 t5_3 t7_3 t8_3 t9_3 t10_1 t11_1 : Value) : M :=
  dr <|
  idv t11_1 fun t79 =>
  idv t5_3 fun t80 =>
  lnl t80 fun t81 =>
  lt .i64 t79 t81 fun t82 =>
  idv t82 fun t83 =>
  gd t83 true (idv t5_3) fun t84 =>
  gd t83 true (idv t11_1) fun t85 =>
  gd t83 true (ia 1 t84 t85) fun t86 =>
  gd t83 true (ld t86) fun t87 =>
  gd t83 true (idv t5_3) fun t88 =>
  gd t83 true (idv t9_3) fun t89 =>
  gd t83 true (ia 1 t88 t89) fun t90 =>
  gd t83 true (ld t90) fun t91 =>
  gd t83 true (cl (f11 t87 t91)) fun t92 =>
  pk t83 t92 (.bool false) fun t93 =>
  jn (fun (j7 : Value → Value → Value → Value → Value → Value → Value → Value → M) =>
    cnd t93 (
      su .i64 t10_1 (.int .i64 1) fun t95 =>
      j7 t0_4 t1_4 t5_3 t7_3 t8_3 t9_3 t95 t11_1
      ) (
      j7 t0_4 t1_4 t5_3 t7_3 t8_3 t9_3 t10_1 t11_1
      )
    ) (f6_j7 self5)
def f6_b5 (j4 : Value → Value → Value → Value → Value → Value → Value → M) (self5 : Value → Value → Value → Value → Value → Value → Value → Value → M) (t0_3 t1_3 t5_2 t7_2 t8_2 t9_2 t10 t11 : Value) : M :=
  lnl t0_3 fun t64 =>
  lt .i64 t11 t64 fun t65 =>
  cnd t65 (
    dr <|
    idv t0_3 fun t68 =>
    idv t11 fun t69 =>
    ia 1 t68 t69 fun t70 =>
    ld t70 fun t71 =>
    idv t5_2 fun t72 =>
    idv t9_2 fun t73 =>
    ia 1 t72 t73 fun t74 =>
    ld t74 fun t75 =>
    cl (f11 t71 t75) fun t76 =>
    jn (fun (j6 : Value → Value → Value → Value → Value → Value → Value → Value → M) =>
      cnd t76 (
        ad .i64 t10 (.int .i64 1) fun t78 =>
        j6 t0_3 t1_3 t5_2 t7_2 t8_2 t9_2 t78 t11
        ) (
        j6 t0_3 t1_3 t5_2 t7_2 t8_2 t9_2 t10 t11
        )
      ) (f6_j6 self5)
    ) (
    j4 t0_3 t1_3 t5_2 t7_2 t8_2 t9_2 t10
    )
def f6_j4 (self2 : Value → Value → Value → Value → Value → Value → M) (t0_6 t1_6 t5_5 t7_5 t8_5 t9_5 t10_3 : Value) : M :=
  nei .i64 t10_3 (.int .i64 0) fun t97 =>
  cnd t97 (
    rt (.bool false)
    ) (
    ad .i64 t9_5 (.int .i64 1) fun t38 =>
    self2 t0_6 t1_6 t5_5 t7_5 t8_5 t38
    )
def f6_j3 (self2 : Value → Value → Value → Value → Value → Value → M) (t0_2 t1_2 t5_1 t7_1 t8_1 t9_1 t61_2 : Value) : M :=
  cnd t61_2 (
    rt (.bool false)
    ) (
    jn (fun (j4 : Value → Value → Value → Value → Value → Value → Value → M) =>
      lo (fun _ _ _ _ _ _ _ _ => bot) (f6_b5 j4) (fun l => l t0_2 t1_2 t5_1 t7_1 t8_1 t9_1 (.int .i64 0) (.int .i64 0))
      ) (f6_j4 self2)
    )
def f6_b2 (j1 : Value → Value → Value → Value → M) (self2 : Value → Value → Value → Value → Value → Value → M) (t0_1 t1_1 t5 t7 t8 t9 : Value) : M :=
  lnl t5 fun t35 =>
  lt .i64 t9 t35 fun t36 =>
  cnd t36 (
    jn (fun (j3 : Value → Value → Value → Value → Value → Value → Value → M) =>
      dr <|
      idv t9 fun t39 =>
      gt .i64 t39 (.int .i64 0) fun t40 =>
      idv t40 fun t41 =>
      gd t41 true (idv t5) fun t42 =>
      gd t41 true (idv t9) fun t43 =>
      gd t41 true (su .i64 t43 (.int .i64 1)) fun t44 =>
      gd t41 true (ia 1 t42 t44) fun t45 =>
      gd t41 true (ld t45) fun t46 =>
      gd t41 true (idv t1_1) fun t47 =>
      gd t41 true (ia 3 t46 t47) fun t48 =>
      gd t41 true (ldn 3 t48) fun t49 =>
      gd t41 true (idv t5) fun t51 =>
      gd t41 true (idv t9) fun t52 =>
      gd t41 true (ia 1 t51 t52) fun t53 =>
      gd t41 true (ld t53) fun t54 =>
      gd t41 true (idv t1_1) fun t55 =>
      gd t41 true (ia 3 t54 t55) fun t56 =>
      gd t41 true (ldn 3 t56) fun t57 =>
      amb (
        gd t41 true (sm Try.prog (Instr.buildSlice 32 1 #[(0, t49)])) fun t50 =>
        kp (fun w => gdB t41 true = true → Kldn 3 t56 t57 w) <|
        kp (fun w => gdB t41 true = true → Kld t53 t54 w) <|
        gd t41 true (sm Try.prog (Instr.buildSlice 32 1 #[(0, t57)])) fun t58_1 =>
        kp (fun w => gdB t41 true = true → Kldn 3 t48 t49 w) <|
        kp (fun w => gdB t41 true = true → Kld t45 t46 w) <|
        gd t41 true (cl (f19 t50 t58_1)) fun t59 =>
        gd t41 true (gt .i64 t59 (.int .i64 0)) fun t60 =>
        pk t41 t60 (.bool false) fun t61 =>
        j3 t0_1 t1_1 t5 t7 t8 t9 t61
        ) (
        gd t41 true (sm Try.prog (Instr.buildSlice 32 1 #[(0, t57)])) fun t58 =>
        kp (fun w => gdB t41 true = true → Kldn 3 t48 t49 w) <|
        kp (fun w => gdB t41 true = true → Kld t45 t46 w) <|
        gd t41 true (sm Try.prog (Instr.buildSlice 32 1 #[(0, t49)])) fun t50_1 =>
        kp (fun w => gdB t41 true = true → Kldn 3 t56 t57 w) <|
        kp (fun w => gdB t41 true = true → Kld t53 t54 w) <|
        gd t41 true (cl (f19 t50_1 t58)) fun t59_1 =>
        gd t41 true (gt .i64 t59_1 (.int .i64 0)) fun t60_1 =>
        pk t41 t60_1 (.bool false) fun t61_1 =>
        j3 t0_1 t1_1 t5 t7 t8 t9 t61_1
        )
      ) (f6_j3 self2)
    ) (
    j1 t0_1 t5 t7 t8
    )
def f6_j1 (t0_7 t5_6 t7_6 t8_6 : Value) : M :=
  eqi .i64 t8_6 (.int .i64 0) fun t99 =>
  gd t99 true (idv t5_6) fun t101 =>
  gd t99 true (lnl t101) fun t102 =>
  gd t99 true (idv t0_7) fun t103 =>
  gd t99 true (lnl t103) fun t104 =>
  gd t99 true (eqi .i64 t102 t104) fun t105 =>
  pk t99 t105 (.bool false) fun t106 =>
  gd t106 true (idv t5_6) fun t108 =>
  gd t106 true (idv t7_6) fun t109 =>
  gd t106 true (cl (f13 t108 t109)) fun t110 =>
  pk t106 t110 (.bool false) fun t111 =>
  rt t111
def f6 (t0 t1 : Value) : M :=
  cl (f8) fun t12 =>
  nt t12 fun t13 =>
  cnd t13 (
    rt (.bool false)
    ) (
    cl (f9 t0) fun t15 =>
    cl (f20 t15 t1) fun t19 =>
    ex 0 t19 fun t20 =>
    ex 1 t19 fun t21 =>
    nei .i64 t21 (.int .i64 0) fun t23 =>
    cnd t23 (
      lnl t20 fun t25 =>
      eqi .i64 t25 (.int .i64 0) fun t26 =>
      rt t26
      ) (
      cl (f20 t20 t1) fun t30 =>
      ex 0 t30 fun t31 =>
      ex 1 t30 fun t32 =>
      jn (fun (j1 : Value → Value → Value → Value → M) =>
        lo (fun _ _ _ _ _ _ => bot) (f6_b2 j1) (fun l => l t15 t1 t20 t31 t32 (.int .i64 0))
        ) (f6_j1)
      )
    )
theorem s6 (t0 t1 : Value) (w : World) (Q : Value → World → Prop) (h : f6 t0 t1 w Q) : Calls Try.prog 6 #[t0, t1] w (Rt Q) := by
  refine calls_of (l := [t0, t1]) Try.func6 rfl Try.ntmps6 (Nat.le_of_ble_eq_true rfl) ?_
  unfold f6 at h
  refine wp_seq ?_
  refine L_region ?_
  refine L_as ?_
  refine L_nil ?_
  refine E_n ?_
  refine wp_seq ?_
  refine wp_seq ?_
  refine L_region ?_
  refine L_u (N_cl Try.func8 rfl nn8 (fun w Q h => s8 w Q h) h) ?_
  intro v w h
  refine L_u (P_nt h) ?_
  intro v w h
  refine L_nil ?_
  refine E_n ?_
  refine C_cnd h (fun h => ?_) (fun h => ?_)
  · refine wp_seq ?_
    refine L_region ?_
    refine L_as ?_
    refine L_nil ?_
    refine E_n ?_
    refine C_ret ?_
    show bodyPost Try.prog Try.f6 (Rt Q) .ret _ _
    exact post_tmps (ts := [4]) (.inr rfl) rfl h
  · refine C_skip ?_
    refine E_n ?_
    refine wp_seq ?_
    refine L_region ?_
    refine L_mv ?_
    refine L_u (N_cl Try.func9 rfl nn9 (fun w Q h => s9 _ w Q h) h) ?_
    intro v w h
    refine L_as ?_
    refine L_nil ?_
    refine E_n ?_
    refine wp_seq ?_
    refine L_region ?_
    refine L_mv ?_
    refine L_mv ?_
    refine L_u (N_cl Try.func20 rfl nn20 (fun w Q h => s20 _ _ w Q h) h) ?_
    intro v w h
    refine L_mv ?_
    refine L_u (P_ex h) ?_
    intro v w h
    refine L_u (P_ex h) ?_
    intro v w h
    refine L_as ?_
    refine L_as ?_
    refine L_nil ?_
    refine E_n ?_
    refine wp_seq ?_
    refine wp_seq ?_
    refine L_region ?_
    refine L_mv ?_
    refine L_u (P_nei h) ?_
    intro v w h
    refine L_nil ?_
    refine E_n ?_
    refine C_cnd h (fun h => ?_) (fun h => ?_)
    · refine wp_seq ?_
      refine L_region ?_
      refine L_mv ?_
      refine L_u (P_lnl is22 h) ?_
      intro v w h
      refine L_u (P_eqi h) ?_
      intro v w h
      refine L_as ?_
      refine L_nil ?_
      refine E_n ?_
      refine C_ret ?_
      show bodyPost Try.prog Try.f6 (Rt Q) .ret _ _
      exact post_tmps (ts := [4]) (.inr rfl) rfl h
    · refine C_skip ?_
      refine E_n ?_
      refine wp_seq ?_
      refine L_region ?_
      refine L_mv ?_
      refine L_mv ?_
      refine L_u (N_cl Try.func20 rfl nn20 (fun w Q h => s20 _ _ w Q h) h) ?_
      intro v w h
      refine L_mv ?_
      refine L_u (P_ex h) ?_
      intro v w h
      refine L_u (P_ex h) ?_
      intro v w h
      refine L_as ?_
      refine L_as ?_
      refine L_nil ?_
      refine E_n ?_
      refine wp_seq ?_
      refine wp_seq ?_
      refine L_region ?_
      refine L_as ?_
      refine L_nil ?_
      refine E_n ?_
      refine C_join (fun (k : Value → Value → Value → Value → M) (ρ : Nat → Value) => k (ρ 0) (ρ 5) (ρ 7) (ρ 8)) h (fun j1 J1 h => ?_) (fun ρ w h => ?_)
      · refine C_blk ?_
        refine C_lo (fun (l : Value → Value → Value → Value → Value → Value → M) (ρ : Nat → Value) => l (ρ 0) (ρ 1) (ρ 5) (ρ 7) (ρ 8) (ρ 9)) h (fun ρ w h => h) (fun nx self2 L2 ρ w h => ?_)
        unfold f6_b2 at h
        refine wp_seq ?_
        refine wp_seq ?_
        refine L_region ?_
        refine L_mv ?_
        refine L_mv ?_
        refine L_u (P_lnl is22 h) ?_
        intro v w h
        refine L_u (P_lt h) ?_
        intro v w h
        refine L_nil ?_
        refine E_n ?_
        refine C_cnd h (fun h => ?_) (fun h => ?_)
        · refine C_skip ?_
          refine E_n ?_
          refine wp_seq ?_
          refine C_blk ?_
          refine wp_seq ?_
          refine wp_seq ?_
          refine C_join (fun (k : Value → Value → Value → Value → Value → Value → Value → M) (ρ : Nat → Value) => k (ρ 0) (ρ 1) (ρ 5) (ρ 7) (ρ 8) (ρ 9) (ρ 61)) h (fun j3 J3 h => ?_) (fun ρ w h => ?_)
          · refine D_region (by decide +kernel) 23 rfl ?_
            replace h := dr_e h
            refine G_p 0 rfl (by decide +kernel) (Y_mv h) ?_
            intro v h
            refine G_p 1 rfl (by decide +kernel) (Y_gt h) ?_
            intro v h
            refine G_p 2 rfl (by decide +kernel) (Y_mv h) ?_
            intro v h
            refine G_pg (t := 41) 3 rfl (by decide +kernel) h rfl rfl (fun h => Y_mv h) ?_
            intro v h
            refine G_pg (t := 41) 4 rfl (by decide +kernel) h rfl rfl (fun h => Y_mv h) ?_
            intro v h
            refine G_pg (t := 41) 5 rfl (by decide +kernel) h rfl rfl (fun h => Y_su h) ?_
            intro v h
            refine G_pg (t := 41) 6 rfl (by decide +kernel) h rfl rfl (fun h => Y_ia se22 h) ?_
            intro v h
            refine G_rg (t := 41) _ 7 rfl (by decide +kernel) h rfl rfl (fun h => R_ld sc33 h) ?_
            intro v h
            refine G_pg (t := 41) 8 rfl (by decide +kernel) h rfl rfl (fun h => Y_mv h) ?_
            intro v h
            refine G_pg (t := 41) 9 rfl (by decide +kernel) h rfl rfl (fun h => Y_ia se33 h) ?_
            intro v h
            refine G_rg (t := 41) _ 10 rfl (by decide +kernel) h rfl rfl (fun h => R_ldn ag31 h) ?_
            intro v h
            refine G_pg (t := 41) 12 rfl (by decide +kernel) h rfl rfl (fun h => Y_mv h) ?_
            intro v h
            refine G_pg (t := 41) 13 rfl (by decide +kernel) h rfl rfl (fun h => Y_mv h) ?_
            intro v h
            refine G_pg (t := 41) 14 rfl (by decide +kernel) h rfl rfl (fun h => Y_ia se22 h) ?_
            intro v h
            refine G_rg (t := 41) _ 15 rfl (by decide +kernel) h rfl rfl (fun h => R_ld sc33 h) ?_
            intro v h
            refine G_pg (t := 41) 16 rfl (by decide +kernel) h rfl rfl (fun h => Y_mv h) ?_
            intro v h
            refine G_pg (t := 41) 17 rfl (by decide +kernel) h rfl rfl (fun h => Y_ia se33 h) ?_
            intro v h
            refine G_rg (t := 41) _ 18 rfl (by decide +kernel) h rfl rfl (fun h => R_ldn ag31 h) ?_
            intro v h
            refine G_two (i := 11) (j := 19) (by decide +kernel) (G_opg (t := 41) rfl (amb_1 h) rfl rfl (fun c h => N_bsl h c) ?_) (G_opg (t := 41) rfl (amb_2 h) rfl rfl (fun c h => N_bsl h c) ?_)
            · intro v w h
              refine ⟨keepF_cons (kp_1 h) (keepF_cons (kp_1 (kp_2 h)) (keepF_dep [10] (by decide +kernel) rfl (keepF_dep [10, 9, 7] (by decide +kernel) rfl keepF_nil))), ?_⟩
              replace h := (kp_2 (kp_2 h))
              refine G_eg (t := 41) 19 rfl (by decide +kernel) h rfl rfl (fun c h => N_bsl h c) ?_
              intro v w h
              refine ⟨keepF_dep [18] (by decide +kernel) rfl (keepF_dep [18, 17, 15] (by decide +kernel) rfl (keepF_cons (kp_1 h) (keepF_cons (kp_1 (kp_2 h)) keepF_nil))), ?_⟩
              replace h := (kp_2 (kp_2 h))
              refine G_eg (t := 41) 20 rfl (by decide +kernel) h rfl rfl (fun c h => N_cl Try.func19 rfl nn19 (fun w Q h => s19 _ _ w Q h) h c) ?_
              intro v w h
              refine ⟨keepF_dep [19, 18] (by decide +kernel) rfl (keepF_dep [19, 18, 17, 15] (by decide +kernel) rfl (keepF_dep [11, 10] (by decide +kernel) rfl (keepF_dep [11, 10, 9, 7] (by decide +kernel) rfl keepF_nil))), ?_⟩
              refine G_pg (t := 41) 21 rfl (by decide +kernel) h rfl rfl (fun h => Y_gt h) ?_
              intro v h
              refine G_p 22 rfl (by decide +kernel) (Y_pk h) ?_
              intro v h
              refine G_done (by decide +kernel) ?_
              exact J3 _ _ h
            · intro v w h
              refine ⟨keepF_dep [18] (by decide +kernel) rfl (keepF_dep [18, 17, 15] (by decide +kernel) rfl (keepF_cons (kp_1 h) (keepF_cons (kp_1 (kp_2 h)) keepF_nil))), ?_⟩
              replace h := (kp_2 (kp_2 h))
              refine G_eg (t := 41) 11 rfl (by decide +kernel) h rfl rfl (fun c h => N_bsl h c) ?_
              intro v w h
              refine ⟨keepF_cons (kp_1 h) (keepF_cons (kp_1 (kp_2 h)) (keepF_dep [10] (by decide +kernel) rfl (keepF_dep [10, 9, 7] (by decide +kernel) rfl keepF_nil))), ?_⟩
              replace h := (kp_2 (kp_2 h))
              refine G_eg (t := 41) 20 rfl (by decide +kernel) h rfl rfl (fun c h => N_cl Try.func19 rfl nn19 (fun w Q h => s19 _ _ w Q h) h c) ?_
              intro v w h
              refine ⟨keepF_dep [19, 18] (by decide +kernel) rfl (keepF_dep [19, 18, 17, 15] (by decide +kernel) rfl (keepF_dep [11, 10] (by decide +kernel) rfl (keepF_dep [11, 10, 9, 7] (by decide +kernel) rfl keepF_nil))), ?_⟩
              refine G_pg (t := 41) 21 rfl (by decide +kernel) h rfl rfl (fun h => Y_gt h) ?_
              intro v h
              refine G_p 22 rfl (by decide +kernel) (Y_pk h) ?_
              intro v h
              refine G_done (by decide +kernel) ?_
              exact J3 _ _ h
          · unfold f6_j3 at h
            refine E_n ?_
            refine C_cnd h (fun h => ?_) (fun h => ?_)
            · refine wp_seq ?_
              refine L_region ?_
              refine L_as ?_
              refine L_nil ?_
              refine E_n ?_
              refine C_ret ?_
              show bodyPost Try.prog Try.f6 (Rt Q) .ret _ _
              exact post_tmps (ts := [4]) (.inr rfl) rfl h
            · refine C_skip ?_
              refine E_n ?_
              refine wp_seq ?_
              refine L_region ?_
              refine L_as ?_
              refine L_nil ?_
              refine E_n ?_
              refine wp_seq ?_
              refine wp_seq ?_
              refine L_region ?_
              refine L_as ?_
              refine L_nil ?_
              refine E_n ?_
              refine C_join (fun (k : Value → Value → Value → Value → Value → Value → Value → M) (ρ : Nat → Value) => k (ρ 0) (ρ 1) (ρ 5) (ρ 7) (ρ 8) (ρ 9) (ρ 10)) h (fun j4 J4 h => ?_) (fun ρ w h => ?_)
              · refine C_blk ?_
                refine C_lo (fun (l : Value → Value → Value → Value → Value → Value → Value → Value → M) (ρ : Nat → Value) => l (ρ 0) (ρ 1) (ρ 5) (ρ 7) (ρ 8) (ρ 9) (ρ 10) (ρ 11)) h (fun ρ w h => h) (fun nx self5 L5 ρ w h => ?_)
                unfold f6_b5 at h
                refine wp_seq ?_
                refine wp_seq ?_
                refine L_region ?_
                refine L_mv ?_
                refine L_mv ?_
                refine L_u (P_lnl is22 h) ?_
                intro v w h
                refine L_u (P_lt h) ?_
                intro v w h
                refine L_nil ?_
                refine E_n ?_
                refine C_cnd h (fun h => ?_) (fun h => ?_)
                · refine C_skip ?_
                  refine E_n ?_
                  refine wp_seq ?_
                  refine C_blk ?_
                  refine wp_seq ?_
                  refine wp_seq ?_
                  refine D_region (by decide +kernel) 9 rfl ?_
                  replace h := dr_e h
                  refine G_p 0 rfl (by decide +kernel) (Y_mv h) ?_
                  intro v h
                  refine G_p 1 rfl (by decide +kernel) (Y_mv h) ?_
                  intro v h
                  refine G_p 2 rfl (by decide +kernel) (Y_ia se22 h) ?_
                  intro v h
                  refine G_r _ 3 rfl (by decide +kernel) (R_ld sc33 h) ?_
                  intro v h
                  refine G_p 4 rfl (by decide +kernel) (Y_mv h) ?_
                  intro v h
                  refine G_p 5 rfl (by decide +kernel) (Y_mv h) ?_
                  intro v h
                  refine G_p 6 rfl (by decide +kernel) (Y_ia se22 h) ?_
                  intro v h
                  refine G_r _ 7 rfl (by decide +kernel) (R_ld sc33 h) ?_
                  intro v h
                  refine G_e 8 rfl (by decide +kernel) (N_cl Try.func11 rfl nn11 (fun w Q h => s11 _ _ w Q h) h ?_)
                  intro v w h
                  refine ⟨keepF_dep [7] (by decide +kernel) rfl (keepF_dep [3] (by decide +kernel) rfl keepF_nil), ?_⟩
                  refine G_done (by decide +kernel) ?_
                  refine E_n ?_
                  refine C_join (fun (k : Value → Value → Value → Value → Value → Value → Value → Value → M) (ρ : Nat → Value) => k (ρ 0) (ρ 1) (ρ 5) (ρ 7) (ρ 8) (ρ 9) (ρ 10) (ρ 11)) h (fun j6 J6 h => ?_) (fun ρ w h => ?_)
                  · refine C_cnd h (fun h => ?_) (fun h => ?_)
                    · refine L_region ?_
                      refine L_mv ?_
                      refine L_u (P_ad h) ?_
                      intro v w h
                      refine L_as ?_
                      refine L_nil ?_
                      exact J6 _ _ h
                    · refine C_skip ?_
                      exact J6 _ _ h
                  · unfold f6_j6 at h
                    refine E_n ?_
                    refine wp_seq ?_
                    refine D_region (by decide +kernel) 15 rfl ?_
                    replace h := dr_e h
                    refine G_p 0 rfl (by decide +kernel) (Y_mv h) ?_
                    intro v h
                    refine G_p 1 rfl (by decide +kernel) (Y_mv h) ?_
                    intro v h
                    refine G_p 2 rfl (by decide +kernel) (Y_lnl is22 h) ?_
                    intro v h
                    refine G_p 3 rfl (by decide +kernel) (Y_lt h) ?_
                    intro v h
                    refine G_p 4 rfl (by decide +kernel) (Y_mv h) ?_
                    intro v h
                    refine G_pg (t := 83) 5 rfl (by decide +kernel) h rfl rfl (fun h => Y_mv h) ?_
                    intro v h
                    refine G_pg (t := 83) 6 rfl (by decide +kernel) h rfl rfl (fun h => Y_mv h) ?_
                    intro v h
                    refine G_pg (t := 83) 7 rfl (by decide +kernel) h rfl rfl (fun h => Y_ia se22 h) ?_
                    intro v h
                    refine G_rg (t := 83) _ 8 rfl (by decide +kernel) h rfl rfl (fun h => R_ld sc33 h) ?_
                    intro v h
                    refine G_pg (t := 83) 9 rfl (by decide +kernel) h rfl rfl (fun h => Y_mv h) ?_
                    intro v h
                    refine G_pg (t := 83) 10 rfl (by decide +kernel) h rfl rfl (fun h => Y_mv h) ?_
                    intro v h
                    refine G_pg (t := 83) 11 rfl (by decide +kernel) h rfl rfl (fun h => Y_ia se22 h) ?_
                    intro v h
                    refine G_rg (t := 83) _ 12 rfl (by decide +kernel) h rfl rfl (fun h => R_ld sc33 h) ?_
                    intro v h
                    refine G_eg (t := 83) 13 rfl (by decide +kernel) h rfl rfl (fun c h => N_cl Try.func11 rfl nn11 (fun w Q h => s11 _ _ w Q h) h c) ?_
                    intro v w h
                    refine ⟨keepF_dep [12] (by decide +kernel) rfl (keepF_dep [8] (by decide +kernel) rfl keepF_nil), ?_⟩
                    refine G_p 14 rfl (by decide +kernel) (Y_pk h) ?_
                    intro v h
                    refine G_done (by decide +kernel) ?_
                    refine E_n ?_
                    refine C_join (fun (k : Value → Value → Value → Value → Value → Value → Value → Value → M) (ρ : Nat → Value) => k (ρ 0) (ρ 1) (ρ 5) (ρ 7) (ρ 8) (ρ 9) (ρ 10) (ρ 11)) h (fun j7 J7 h => ?_) (fun ρ w h => ?_)
                    · refine C_cnd h (fun h => ?_) (fun h => ?_)
                      · refine L_region ?_
                        refine L_mv ?_
                        refine L_u (P_su h) ?_
                        intro v w h
                        refine L_as ?_
                        refine L_nil ?_
                        exact J7 _ _ h
                      · refine C_skip ?_
                        exact J7 _ _ h
                    · unfold f6_j7 at h
                      refine B_n ?_
                      refine E_n ?_
                      refine L_region ?_
                      refine L_mv ?_
                      refine L_u (P_ad h) ?_
                      intro v w h
                      refine L_as ?_
                      refine L_nil ?_
                      refine E_n ?_
                      exact L5 _ _ h
                · refine C_exit ?_
                  refine E_x ?_
                  refine E_x ?_
                  refine B_x ?_
                  exact J4 _ _ h
              · unfold f6_j4 at h
                refine E_n ?_
                refine wp_seq ?_
                refine L_region ?_
                refine L_mv ?_
                refine L_u (P_nei h) ?_
                intro v w h
                refine L_nil ?_
                refine E_n ?_
                refine C_cnd h (fun h => ?_) (fun h => ?_)
                · refine wp_seq ?_
                  refine L_region ?_
                  refine L_as ?_
                  refine L_nil ?_
                  refine E_n ?_
                  refine C_ret ?_
                  show bodyPost Try.prog Try.f6 (Rt Q) .ret _ _
                  exact post_tmps (ts := [4]) (.inr rfl) rfl h
                · refine C_skip ?_
                  refine B_n ?_
                  refine E_n ?_
                  refine L_region ?_
                  refine L_mv ?_
                  refine L_u (P_ad h) ?_
                  intro v w h
                  refine L_as ?_
                  refine L_nil ?_
                  refine E_n ?_
                  exact L2 _ _ h
        · refine C_exit ?_
          refine E_x ?_
          refine E_x ?_
          refine B_x ?_
          exact J1 _ _ h
      · unfold f6_j1 at h
        refine E_n ?_
        refine wp_seq ?_
        refine L_region ?_
        refine L_mv ?_
        refine L_u (P_eqi h) ?_
        intro v w h
        refine L_mv ?_
        refine L_g (t := 100) h rfl rfl (fun c h => P_mv h c) ?_
        intro v w h
        refine L_g (t := 100) h rfl rfl (fun c h => P_lnl is22 h c) ?_
        intro v w h
        refine L_g (t := 100) h rfl rfl (fun c h => P_mv h c) ?_
        intro v w h
        refine L_g (t := 100) h rfl rfl (fun c h => P_lnl is22 h c) ?_
        intro v w h
        refine L_g (t := 100) h rfl rfl (fun c h => P_eqi h c) ?_
        intro v w h
        refine L_u (P_pk h) ?_
        intro v w h
        refine L_mv ?_
        refine L_g (t := 107) h rfl rfl (fun c h => P_mv h c) ?_
        intro v w h
        refine L_g (t := 107) h rfl rfl (fun c h => P_mv h c) ?_
        intro v w h
        refine L_g (t := 107) h rfl rfl (fun c h => N_cl Try.func13 rfl nn13 (fun w Q h => s13 _ _ w Q h) h c) ?_
        intro v w h
        refine L_u (P_pk h) ?_
        intro v w h
        refine L_as ?_
        refine L_nil ?_
        refine E_n ?_
        refine C_ret ?_
        show bodyPost Try.prog Try.f6 (Rt Q) .ret _ _
        exact post_tmps (ts := [4]) (.inr rfl) rfl h

/- factotum/factotumref02.Ahead -/
def f62_b2 (j1 : Value → Value → M) (self2 : Value → Value → Value → M) (t0_1 t1_1 t5 : Value) : M :=
  lns t0_1 fun t8 =>
  lt .i64 t5 t8 fun t9 =>
  gd t9 true (idv t5) fun t11 =>
  gd t9 true (idv t1_1) fun t12 =>
  gd t9 true (lns t12) fun t13 =>
  gd t9 true (lt .i64 t11 t13) fun t14 =>
  pk t9 t14 (.bool false) fun t15 =>
  cnd t15 (
    dr <|
    idv t0_1 fun t18 =>
    idv t5 fun t19 =>
    ixs t18 t19 fun t20 =>
    idv t1_1 fun t21 =>
    idv t5 fun t22 =>
    ixs t21 t22 fun t23 =>
    nei .u8 t20 t23 fun t24 =>
    cnd t24 (
      dr <|
      idv t0_1 fun t25 =>
      idv t5 fun t26 =>
      ixs t25 t26 fun t27 =>
      idv t1_1 fun t28 =>
      idv t5 fun t29 =>
      ixs t28 t29 fun t30 =>
      lt .u8 t27 t30 fun t31 =>
      idv t31 fun t4 =>
      rt t4
      ) (
      ad .i64 t5 (.int .i64 1) fun t17 =>
      self2 t0_1 t1_1 t17
      )
    ) (
    j1 t0_1 t1_1
    )
def f62_j1 (t0_2 t1_2 : Value) : M :=
  lns t0_2 fun t33 =>
  lns t1_2 fun t35 =>
  lt .i64 t33 t35 fun t36 =>
  rt t36
def f62 (t0 t1 : Value) : M :=
  jn (fun (j1 : Value → Value → M) =>
    lo (fun _ _ _ => bot) (f62_b2 j1) (fun l => l t0 t1 (.int .i64 0))
    ) (f62_j1)
theorem s62 (t0 t1 : Value) (w : World) (Q : Value → World → Prop) (h : f62 t0 t1 w Q) : Calls Try.prog 62 #[t0, t1] w (Rt Q) := by
  refine calls_of (l := [t0, t1]) Try.func62 rfl Try.ntmps62 (Nat.le_of_ble_eq_true rfl) ?_
  unfold f62 at h
  refine wp_seq ?_
  refine L_region ?_
  refine L_as ?_
  refine L_nil ?_
  refine E_n ?_
  refine wp_seq ?_
  refine wp_seq ?_
  refine L_region ?_
  refine L_as ?_
  refine L_nil ?_
  refine E_n ?_
  refine C_join (fun (k : Value → Value → M) (ρ : Nat → Value) => k (ρ 0) (ρ 1)) h (fun j1 J1 h => ?_) (fun ρ w h => ?_)
  · refine C_blk ?_
    refine C_lo (fun (l : Value → Value → Value → M) (ρ : Nat → Value) => l (ρ 0) (ρ 1) (ρ 5)) h (fun ρ w h => h) (fun nx self2 L2 ρ w h => ?_)
    unfold f62_b2 at h
    refine wp_seq ?_
    refine wp_seq ?_
    refine L_region ?_
    refine L_mv ?_
    refine L_mv ?_
    refine L_u (P_lns st9 h) ?_
    intro v w h
    refine L_u (P_lt h) ?_
    intro v w h
    refine L_mv ?_
    refine L_g (t := 10) h rfl rfl (fun c h => P_mv h c) ?_
    intro v w h
    refine L_g (t := 10) h rfl rfl (fun c h => P_mv h c) ?_
    intro v w h
    refine L_g (t := 10) h rfl rfl (fun c h => P_lns st9 h c) ?_
    intro v w h
    refine L_g (t := 10) h rfl rfl (fun c h => P_lt h c) ?_
    intro v w h
    refine L_u (P_pk h) ?_
    intro v w h
    refine L_nil ?_
    refine E_n ?_
    refine C_cnd h (fun h => ?_) (fun h => ?_)
    · refine C_skip ?_
      refine E_n ?_
      refine wp_seq ?_
      refine C_blk ?_
      refine wp_seq ?_
      refine D_region (by decide +kernel) 7 rfl ?_
      replace h := dr_e h
      refine G_p 0 rfl (by decide +kernel) (Y_mv h) ?_
      intro v h
      refine G_p 1 rfl (by decide +kernel) (Y_mv h) ?_
      intro v h
      refine G_p 2 rfl (by decide +kernel) (Y_ixs st9 h) ?_
      intro v h
      refine G_p 3 rfl (by decide +kernel) (Y_mv h) ?_
      intro v h
      refine G_p 4 rfl (by decide +kernel) (Y_mv h) ?_
      intro v h
      refine G_p 5 rfl (by decide +kernel) (Y_ixs st9 h) ?_
      intro v h
      refine G_p 6 rfl (by decide +kernel) (Y_nei h) ?_
      intro v h
      refine G_done (by decide +kernel) ?_
      refine E_n ?_
      refine C_cnd h (fun h => ?_) (fun h => ?_)
      · refine wp_seq ?_
        refine D_region (by decide +kernel) 8 rfl ?_
        replace h := dr_e h
        refine G_p 0 rfl (by decide +kernel) (Y_mv h) ?_
        intro v h
        refine G_p 1 rfl (by decide +kernel) (Y_mv h) ?_
        intro v h
        refine G_p 2 rfl (by decide +kernel) (Y_ixs st9 h) ?_
        intro v h
        refine G_p 3 rfl (by decide +kernel) (Y_mv h) ?_
        intro v h
        refine G_p 4 rfl (by decide +kernel) (Y_mv h) ?_
        intro v h
        refine G_p 5 rfl (by decide +kernel) (Y_ixs st9 h) ?_
        intro v h
        refine G_p 6 rfl (by decide +kernel) (Y_lt h) ?_
        intro v h
        refine G_p 7 rfl (by decide +kernel) (Y_as h) ?_
        intro v h
        refine G_done (by decide +kernel) ?_
        refine E_n ?_
        refine C_ret ?_
        show bodyPost Try.prog Try.f62 (Rt Q) .ret _ _
        exact post_tmps (ts := [4]) (.inr rfl) rfl h
      · refine C_skip ?_
        refine B_n ?_
        refine E_n ?_
        refine L_region ?_
        refine L_mv ?_
        refine L_u (P_ad h) ?_
        intro v w h
        refine L_as ?_
        refine L_nil ?_
        refine E_n ?_
        exact L2 _ _ h
    · refine C_exit ?_
      refine E_x ?_
      refine E_x ?_
      refine B_x ?_
      exact J1 _ _ h
  · unfold f62_j1 at h
    refine E_n ?_
    refine wp_seq ?_
    refine L_region ?_
    refine L_mv ?_
    refine L_u (P_lns st9 h) ?_
    intro v w h
    refine L_mv ?_
    refine L_u (P_lns st9 h) ?_
    intro v w h
    refine L_u (P_lt h) ?_
    intro v w h
    refine L_as ?_
    refine L_nil ?_
    refine E_n ?_
    refine C_ret ?_
    show bodyPost Try.prog Try.f62 (Rt Q) .ret _ _
    exact post_tmps (ts := [4]) (.inr rfl) rfl h

/- factotum/factotumref02.before -/
def f60 (t0 t1 : Value) : M :=
  bx 31 t0 fun t2 =>
  bx 31 t1 fun t3 =>
  fa 0 t2 fun t5 =>
  ld t5 fun t6 =>
  fa 0 t3 fun t7 =>
  ld t7 fun t8 =>
  nei .i64 t6 t8 fun t9 =>
  cnd t9 (
    fa 0 t2 fun t10 =>
    ld t10 fun t11 =>
    fa 0 t3 fun t12 =>
    ld t12 fun t13 =>
    lt .i64 t11 t13 fun t14 =>
    rt t14
    ) (
    fa 1 t2 fun t15 =>
    ld t15 fun t16 =>
    fa 1 t3 fun t17 =>
    ld t17 fun t18 =>
    nei .i64 t16 t18 fun t19 =>
    cnd t19 (
      fa 1 t2 fun t20 =>
      ld t20 fun t21 =>
      fa 1 t3 fun t22 =>
      ld t22 fun t23 =>
      lt .i64 t21 t23 fun t24 =>
      rt t24
      ) (
      fa 2 t2 fun t25 =>
      ld t25 fun t26 =>
      fa 2 t3 fun t27 =>
      ld t27 fun t28 =>
      cl (f62 t26 t28) fun t29 =>
      rt t29
      )
    )
theorem s60 (t0 t1 : Value) (w : World) (Q : Value → World → Prop) (h : f60 t0 t1 w Q) : Calls Try.prog 60 #[t0, t1] w (Rt Q) := by
  refine calls_of (l := [t0, t1]) Try.func60 rfl Try.ntmps60 (Nat.le_of_ble_eq_true rfl) ?_
  unfold f60 at h
  refine wp_seq ?_
  refine L_region ?_
  refine L_u (P_bx h) ?_
  intro v w h
  refine L_u (P_bx h) ?_
  intro v w h
  refine L_as ?_
  refine L_nil ?_
  refine E_n ?_
  refine wp_seq ?_
  refine wp_seq ?_
  refine L_region ?_
  refine L_u (P_fa fo31_0 h) ?_
  intro v w h
  refine L_u (P_ld sc29 h) ?_
  intro v w h
  refine L_u (P_fa fo31_0 h) ?_
  intro v w h
  refine L_u (P_ld sc29 h) ?_
  intro v w h
  refine L_u (P_nei h) ?_
  intro v w h
  refine L_nil ?_
  refine E_n ?_
  refine C_cnd h (fun h => ?_) (fun h => ?_)
  · refine wp_seq ?_
    refine L_region ?_
    refine L_u (P_fa fo31_0 h) ?_
    intro v w h
    refine L_u (P_ld sc29 h) ?_
    intro v w h
    refine L_u (P_fa fo31_0 h) ?_
    intro v w h
    refine L_u (P_ld sc29 h) ?_
    intro v w h
    refine L_u (P_lt h) ?_
    intro v w h
    refine L_as ?_
    refine L_nil ?_
    refine E_n ?_
    refine C_ret ?_
    show bodyPost Try.prog Try.f60 (Rt Q) .ret _ _
    exact post_tmps (ts := [4]) (.inr rfl) rfl h
  · refine C_skip ?_
    refine E_n ?_
    refine wp_seq ?_
    refine wp_seq ?_
    refine L_region ?_
    refine L_u (P_fa fo31_1 h) ?_
    intro v w h
    refine L_u (P_ld sc2 h) ?_
    intro v w h
    refine L_u (P_fa fo31_1 h) ?_
    intro v w h
    refine L_u (P_ld sc2 h) ?_
    intro v w h
    refine L_u (P_nei h) ?_
    intro v w h
    refine L_nil ?_
    refine E_n ?_
    refine C_cnd h (fun h => ?_) (fun h => ?_)
    · refine wp_seq ?_
      refine L_region ?_
      refine L_u (P_fa fo31_1 h) ?_
      intro v w h
      refine L_u (P_ld sc2 h) ?_
      intro v w h
      refine L_u (P_fa fo31_1 h) ?_
      intro v w h
      refine L_u (P_ld sc2 h) ?_
      intro v w h
      refine L_u (P_lt h) ?_
      intro v w h
      refine L_as ?_
      refine L_nil ?_
      refine E_n ?_
      refine C_ret ?_
      show bodyPost Try.prog Try.f60 (Rt Q) .ret _ _
      exact post_tmps (ts := [4]) (.inr rfl) rfl h
    · refine C_skip ?_
      refine E_n ?_
      refine wp_seq ?_
      refine L_region ?_
      refine L_u (P_fa fo31_2 h) ?_
      intro v w h
      refine L_u (P_ld sc9 h) ?_
      intro v w h
      refine L_u (P_fa fo31_2 h) ?_
      intro v w h
      refine L_u (P_ld sc9 h) ?_
      intro v w h
      refine L_u (N_cl Try.func62 rfl nn62 (fun w Q h => s62 _ _ w Q h) h) ?_
      intro v w h
      refine L_as ?_
      refine L_nil ?_
      refine E_n ?_
      refine C_ret ?_
      show bodyPost Try.prog Try.f60 (Rt Q) .ret _ _
      exact post_tmps (ts := [4]) (.inr rfl) rfl h

/- factotum/factotumref02.Compare -/
def f53_b2 (j1 : Value → Value → M) (self2 : Value → Value → Value → M) (t0_1 t1_1 t5 : Value) : M :=
  lnl t0_1 fun t8 =>
  lt .i64 t5 t8 fun t9 =>
  gd t9 true (idv t5) fun t11 =>
  gd t9 true (idv t1_1) fun t12 =>
  gd t9 true (lnl t12) fun t13 =>
  gd t9 true (lt .i64 t11 t13) fun t14 =>
  pk t9 t14 (.bool false) fun t15 =>
  cnd t15 (
    dr <|
    idv t0_1 fun t18 =>
    idv t5 fun t19 =>
    ia 3 t18 t19 fun t20 =>
    ldn 3 t20 fun t21 =>
    idv t1_1 fun t22 =>
    idv t5 fun t23 =>
    ia 3 t22 t23 fun t24 =>
    ldn 3 t24 fun t25 =>
    cl (f60 t21 t25) fun t26 =>
    cnd t26 (
      rt (.int .i64 (-1))
      ) (
      dr <|
      idv t1_1 fun t27 =>
      idv t5 fun t28 =>
      ia 3 t27 t28 fun t29 =>
      ldn 3 t29 fun t30 =>
      idv t0_1 fun t31 =>
      idv t5 fun t32 =>
      ia 3 t31 t32 fun t33 =>
      ldn 3 t33 fun t34 =>
      cl (f60 t30 t34) fun t35 =>
      cnd t35 (
        rt (.int .i64 1)
        ) (
        ad .i64 t5 (.int .i64 1) fun t17 =>
        self2 t0_1 t1_1 t17
        )
      )
    ) (
    j1 t0_1 t1_1
    )
def f53_j1 (t0_2 t1_2 : Value) : M :=
  lnl t0_2 fun t37 =>
  lnl t1_2 fun t39 =>
  lt .i64 t37 t39 fun t40 =>
  cnd t40 (
    rt (.int .i64 (-1))
    ) (
    lnl t0_2 fun t42 =>
    lnl t1_2 fun t44 =>
    gt .i64 t42 t44 fun t45 =>
    cnd t45 (
      rt (.int .i64 1)
      ) (
      rt (.int .i64 0)
      )
    )
def f53 (t0 t1 : Value) : M :=
  jn (fun (j1 : Value → Value → M) =>
    lo (fun _ _ _ => bot) (f53_b2 j1) (fun l => l t0 t1 (.int .i64 0))
    ) (f53_j1)
theorem s53 (t0 t1 : Value) (w : World) (Q : Value → World → Prop) (h : f53 t0 t1 w Q) : Calls Try.prog 53 #[t0, t1] w (Rt Q) := by
  refine calls_of (l := [t0, t1]) Try.func53 rfl Try.ntmps53 (Nat.le_of_ble_eq_true rfl) ?_
  unfold f53 at h
  refine wp_seq ?_
  refine L_region ?_
  refine L_as ?_
  refine L_nil ?_
  refine E_n ?_
  refine wp_seq ?_
  refine wp_seq ?_
  refine L_region ?_
  refine L_as ?_
  refine L_nil ?_
  refine E_n ?_
  refine C_join (fun (k : Value → Value → M) (ρ : Nat → Value) => k (ρ 0) (ρ 1)) h (fun j1 J1 h => ?_) (fun ρ w h => ?_)
  · refine C_blk ?_
    refine C_lo (fun (l : Value → Value → Value → M) (ρ : Nat → Value) => l (ρ 0) (ρ 1) (ρ 5)) h (fun ρ w h => h) (fun nx self2 L2 ρ w h => ?_)
    unfold f53_b2 at h
    refine wp_seq ?_
    refine wp_seq ?_
    refine L_region ?_
    refine L_mv ?_
    refine L_mv ?_
    refine L_u (P_lnl is32 h) ?_
    intro v w h
    refine L_u (P_lt h) ?_
    intro v w h
    refine L_mv ?_
    refine L_g (t := 10) h rfl rfl (fun c h => P_mv h c) ?_
    intro v w h
    refine L_g (t := 10) h rfl rfl (fun c h => P_mv h c) ?_
    intro v w h
    refine L_g (t := 10) h rfl rfl (fun c h => P_lnl is32 h c) ?_
    intro v w h
    refine L_g (t := 10) h rfl rfl (fun c h => P_lt h c) ?_
    intro v w h
    refine L_u (P_pk h) ?_
    intro v w h
    refine L_nil ?_
    refine E_n ?_
    refine C_cnd h (fun h => ?_) (fun h => ?_)
    · refine C_skip ?_
      refine E_n ?_
      refine wp_seq ?_
      refine C_blk ?_
      refine wp_seq ?_
      refine wp_seq ?_
      refine D_region (by decide +kernel) 9 rfl ?_
      replace h := dr_e h
      refine G_p 0 rfl (by decide +kernel) (Y_mv h) ?_
      intro v h
      refine G_p 1 rfl (by decide +kernel) (Y_mv h) ?_
      intro v h
      refine G_p 2 rfl (by decide +kernel) (Y_ia se32 h) ?_
      intro v h
      refine G_r _ 3 rfl (by decide +kernel) (R_ldn ag31 h) ?_
      intro v h
      refine G_p 4 rfl (by decide +kernel) (Y_mv h) ?_
      intro v h
      refine G_p 5 rfl (by decide +kernel) (Y_mv h) ?_
      intro v h
      refine G_p 6 rfl (by decide +kernel) (Y_ia se32 h) ?_
      intro v h
      refine G_r _ 7 rfl (by decide +kernel) (R_ldn ag31 h) ?_
      intro v h
      refine G_e 8 rfl (by decide +kernel) (N_cl Try.func60 rfl nn60 (fun w Q h => s60 _ _ w Q h) h ?_)
      intro v w h
      refine ⟨keepF_dep [7] (by decide +kernel) rfl (keepF_dep [3] (by decide +kernel) rfl keepF_nil), ?_⟩
      refine G_done (by decide +kernel) ?_
      refine E_n ?_
      refine C_cnd h (fun h => ?_) (fun h => ?_)
      · refine wp_seq ?_
        refine L_region ?_
        refine L_as ?_
        refine L_nil ?_
        refine E_n ?_
        refine C_ret ?_
        show bodyPost Try.prog Try.f53 (Rt Q) .ret _ _
        exact post_tmps (ts := [4]) (.inr rfl) rfl h
      · refine C_skip ?_
        refine E_n ?_
        refine wp_seq ?_
        refine D_region (by decide +kernel) 9 rfl ?_
        replace h := dr_e h
        refine G_p 0 rfl (by decide +kernel) (Y_mv h) ?_
        intro v h
        refine G_p 1 rfl (by decide +kernel) (Y_mv h) ?_
        intro v h
        refine G_p 2 rfl (by decide +kernel) (Y_ia se32 h) ?_
        intro v h
        refine G_r _ 3 rfl (by decide +kernel) (R_ldn ag31 h) ?_
        intro v h
        refine G_p 4 rfl (by decide +kernel) (Y_mv h) ?_
        intro v h
        refine G_p 5 rfl (by decide +kernel) (Y_mv h) ?_
        intro v h
        refine G_p 6 rfl (by decide +kernel) (Y_ia se32 h) ?_
        intro v h
        refine G_r _ 7 rfl (by decide +kernel) (R_ldn ag31 h) ?_
        intro v h
        refine G_e 8 rfl (by decide +kernel) (N_cl Try.func60 rfl nn60 (fun w Q h => s60 _ _ w Q h) h ?_)
        intro v w h
        refine ⟨keepF_dep [7] (by decide +kernel) rfl (keepF_dep [3] (by decide +kernel) rfl keepF_nil), ?_⟩
        refine G_done (by decide +kernel) ?_
        refine E_n ?_
        refine C_cnd h (fun h => ?_) (fun h => ?_)
        · refine wp_seq ?_
          refine L_region ?_
          refine L_as ?_
          refine L_nil ?_
          refine E_n ?_
          refine C_ret ?_
          show bodyPost Try.prog Try.f53 (Rt Q) .ret _ _
          exact post_tmps (ts := [4]) (.inr rfl) rfl h
        · refine C_skip ?_
          refine B_n ?_
          refine E_n ?_
          refine L_region ?_
          refine L_mv ?_
          refine L_u (P_ad h) ?_
          intro v w h
          refine L_as ?_
          refine L_nil ?_
          refine E_n ?_
          exact L2 _ _ h
    · refine C_exit ?_
      refine E_x ?_
      refine E_x ?_
      refine B_x ?_
      exact J1 _ _ h
  · unfold f53_j1 at h
    refine E_n ?_
    refine wp_seq ?_
    refine wp_seq ?_
    refine L_region ?_
    refine L_mv ?_
    refine L_u (P_lnl is32 h) ?_
    intro v w h
    refine L_mv ?_
    refine L_u (P_lnl is32 h) ?_
    intro v w h
    refine L_u (P_lt h) ?_
    intro v w h
    refine L_nil ?_
    refine E_n ?_
    refine C_cnd h (fun h => ?_) (fun h => ?_)
    · refine wp_seq ?_
      refine L_region ?_
      refine L_as ?_
      refine L_nil ?_
      refine E_n ?_
      refine C_ret ?_
      show bodyPost Try.prog Try.f53 (Rt Q) .ret _ _
      exact post_tmps (ts := [4]) (.inr rfl) rfl h
    · refine C_skip ?_
      refine E_n ?_
      refine wp_seq ?_
      refine wp_seq ?_
      refine L_region ?_
      refine L_mv ?_
      refine L_u (P_lnl is32 h) ?_
      intro v w h
      refine L_mv ?_
      refine L_u (P_lnl is32 h) ?_
      intro v w h
      refine L_u (P_gt h) ?_
      intro v w h
      refine L_nil ?_
      refine E_n ?_
      refine C_cnd h (fun h => ?_) (fun h => ?_)
      · refine wp_seq ?_
        refine L_region ?_
        refine L_as ?_
        refine L_nil ?_
        refine E_n ?_
        refine C_ret ?_
        show bodyPost Try.prog Try.f53 (Rt Q) .ret _ _
        exact post_tmps (ts := [4]) (.inr rfl) rfl h
      · refine C_skip ?_
        refine E_n ?_
        refine wp_seq ?_
        refine L_region ?_
        refine L_as ?_
        refine L_nil ?_
        refine E_n ?_
        refine C_ret ?_
        show bodyPost Try.prog Try.f53 (Rt Q) .ret _ _
        exact post_tmps (ts := [4]) (.inr rfl) rfl h

/- factotum/factotumref31.ahead -/
def f41 (t0 t1 : Value) : M :=
  bx 31 t0 fun t2 =>
  bx 31 t1 fun t3 =>
  ldn 3 t2 fun t5 =>
  sm Try.prog (Instr.buildSlice 32 1 #[(0, t5)]) fun t6 =>
  ldn 3 t3 fun t7 =>
  sm Try.prog (Instr.buildSlice 32 1 #[(0, t7)]) fun t8 =>
  cl (f53 t6 t8) fun t9 =>
  lt .i64 t9 (.int .i64 0) fun t10 =>
  rt t10
theorem s41 (t0 t1 : Value) (w : World) (Q : Value → World → Prop) (h : f41 t0 t1 w Q) : Calls Try.prog 41 #[t0, t1] w (Rt Q) := by
  refine calls_of (l := [t0, t1]) Try.func41 rfl Try.ntmps41 (Nat.le_of_ble_eq_true rfl) ?_
  unfold f41 at h
  refine wp_seq ?_
  refine L_region ?_
  refine L_u (P_bx h) ?_
  intro v w h
  refine L_u (P_bx h) ?_
  intro v w h
  refine L_as ?_
  refine L_nil ?_
  refine E_n ?_
  refine wp_seq ?_
  refine L_region ?_
  refine L_u (P_ldn ag31 h) ?_
  intro v w h
  refine L_u (N_bsl h) ?_
  intro v w h
  refine L_u (P_ldn ag31 h) ?_
  intro v w h
  refine L_u (N_bsl h) ?_
  intro v w h
  refine L_u (N_cl Try.func53 rfl nn53 (fun w Q h => s53 _ _ w Q h) h) ?_
  intro v w h
  refine L_u (P_lt h) ?_
  intro v w h
  refine L_as ?_
  refine L_nil ?_
  refine E_n ?_
  refine C_ret ?_
  show bodyPost Try.prog Try.f41 (Rt Q) .ret _ _
  exact post_tmps (ts := [4]) (.inr rfl) rfl h
end Go.Proofs.Ytlmiimojgledpaa

set_option maxRecDepth 20000
set_option maxHeartbeats 4000000
namespace Go.Proofs.Ytlmiimojgledpaa
open Sh
attribute [local irreducible] wpL anyG act jn lo gdB amb kp smr nc fa ld ldn st stn ad su mu qu re lt le gt ge eqi nei bws shl shr cat eqs nes lts gts eqb neb nt pk cv al bx ex fld fldn lnl lns ia iaa ixs sls sll sla mif mnm mxm mm asrt sm smu cl cc cf ci cnd gd gdu
/- factotum/factotumref31.Where -/
def f21_j3 (self2 : Value → Value → Value → Value → Value → Value → M) (t0_2 t1_2 t2_2 t3_2 t10_1 t11_1 : Value) : M :=
  ad .i64 t11_1 (.int .i64 1) fun t22 =>
  self2 t0_2 t1_2 t2_2 t3_2 t10_1 t22
def f21_b2 (j1 : Value → M) (self2 : Value → Value → Value → Value → Value → Value → M) (t0_1 t1_1 t2_1 t3_1 t10 t11 : Value) : M :=
  lnl t0_1 fun t19 =>
  lt .i64 t11 t19 fun t20 =>
  cnd t20 (
    jn (fun (j3 : Value → Value → Value → Value → Value → Value → M) =>
      ia 1 t0_1 t11 fun t25 =>
      ld t25 fun t26 =>
      ia 3 t26 t1_1 fun t28 =>
      ldn 3 t28 fun t29 =>
      al 31 #[(.int .i64 0), (.int .i64 0), (.string ⟨#[]⟩)] fun t12 =>
      stn 3 t12 t29 <|
      dr <|
      idv t2_1 fun t30 =>
      lnl t30 fun t31 =>
      gt .i64 t31 (.int .i64 0) fun t32 =>
      idv t32 fun t33 =>
      gd t33 true (ldn 3 t12) fun t34 =>
      gd t33 true (idv t2_1) fun t35 =>
      gd t33 true (ia 3 t35 (.int .i64 0)) fun t36 =>
      gd t33 true (ldn 3 t36) fun t37 =>
      gd t33 true (cl (f41 t34 t37)) fun t38 =>
      pk t33 t38 (.bool false) fun t39 =>
      idv t39 fun t40 =>
      gd t40 false (idv t3_1) fun t41 =>
      gd t40 false (lnl t41) fun t42 =>
      gd t40 false (gt .i64 t42 (.int .i64 0)) fun t43 =>
      gd t40 false (idv t43) fun t44 =>
      gd t44 true (ldn 3 t12) fun t45 =>
      gd t44 true (idv t3_1) fun t46 =>
      gd t44 true (ia 3 t46 (.int .i64 0)) fun t47 =>
      gd t44 true (ldn 3 t47) fun t48 =>
      gd t44 true (cl (f41 t45 t48)) fun t49 =>
      gd t44 true (nt t49) fun t50 =>
      gd t40 false (pk t44 t50 (.bool false)) fun t51 =>
      pk t40 (.bool true) t51 fun t52 =>
      cnd t52 (
        j3 t0_1 t1_1 t2_1 t3_1 t10 t11
        ) (
        ia 1 t0_1 t11 fun t56 =>
        ld t56 fun t57 =>
        sm Try.prog (Instr.buildSlice 22 1 #[(0, t57)]) fun t58 =>
        sm Try.prog (Builtin.append_ #[22, 22] 22 #[t10, t58]) fun t59 =>
        j3 t0_1 t1_1 t2_1 t3_1 t59 t11
        )
      ) (f21_j3 self2)
    ) (
    j1 t10
    )
def f21_j1 (t10_2 : Value) : M :=
  rt (.tuple #[t10_2, (.int .i64 0)])
def f21 (t0 t1 t2 t3 : Value) : M :=
  cl (f28 t0 t1) fun t15 =>
  nt t15 fun t16 =>
  cnd t16 (
    rt (.tuple #[(.slice none 0 0), (.int .i64 7)])
    ) (
    jn (fun (j1 : Value → M) =>
      lo (fun _ _ _ _ _ _ => bot) (f21_b2 j1) (fun l => l t0 t1 t2 t3 (.slice none 0 0) (.int .i64 0))
      ) (f21_j1)
    )
theorem s21 (t0 t1 t2 t3 : Value) (w : World) (Q : Value → World → Prop) (h : f21 t0 t1 t2 t3 w Q) : Calls Try.prog 21 #[t0, t1, t2, t3] w (Rt Q) := by
  refine calls_of (l := [t0, t1, t2, t3]) Try.func21 rfl Try.ntmps21 (Nat.le_of_ble_eq_true rfl) ?_
  unfold f21 at h
  refine wp_seq ?_
  refine L_region ?_
  refine L_as ?_
  refine L_as ?_
  refine L_nil ?_
  refine E_n ?_
  refine wp_seq ?_
  refine wp_seq ?_
  refine L_region ?_
  refine L_mv ?_
  refine L_mv ?_
  refine L_u (N_cl Try.func28 rfl nn28 (fun w Q h => s28 _ _ w Q h) h) ?_
  intro v w h
  refine L_u (P_nt h) ?_
  intro v w h
  refine L_nil ?_
  refine E_n ?_
  refine C_cnd h (fun h => ?_) (fun h => ?_)
  · refine wp_seq ?_
    refine L_region ?_
    refine L_as ?_
    refine L_as ?_
    refine L_nil ?_
    refine E_n ?_
    refine C_ret ?_
    show bodyPost Try.prog Try.f21 (Rt Q) .ret _ _
    exact post_tmps (ts := [8, 9]) (.inr rfl) rfl h
  · refine C_skip ?_
    refine E_n ?_
    refine wp_seq ?_
    refine L_region ?_
    refine L_as ?_
    refine L_nil ?_
    refine E_n ?_
    refine wp_seq ?_
    refine wp_seq ?_
    refine L_region ?_
    refine L_as ?_
    refine L_nil ?_
    refine E_n ?_
    refine C_join (fun (k : Value → M) (ρ : Nat → Value) => k (ρ 10)) h (fun j1 J1 h => ?_) (fun ρ w h => ?_)
    · refine C_blk ?_
      refine C_lo (fun (l : Value → Value → Value → Value → Value → Value → M) (ρ : Nat → Value) => l (ρ 0) (ρ 1) (ρ 2) (ρ 3) (ρ 10) (ρ 11)) h (fun ρ w h => h) (fun nx self2 L2 ρ w h => ?_)
      unfold f21_b2 at h
      refine wp_seq ?_
      refine wp_seq ?_
      refine L_region ?_
      refine L_mv ?_
      refine L_mv ?_
      refine L_u (P_lnl is22 h) ?_
      intro v w h
      refine L_u (P_lt h) ?_
      intro v w h
      refine L_nil ?_
      refine E_n ?_
      refine C_cnd h (fun h => ?_) (fun h => ?_)
      · refine C_skip ?_
        refine E_n ?_
        refine wp_seq ?_
        refine C_join (fun (k : Value → Value → Value → Value → Value → Value → M) (ρ : Nat → Value) => k (ρ 0) (ρ 1) (ρ 2) (ρ 3) (ρ 10) (ρ 11)) h (fun j3 J3 h => ?_) (fun ρ w h => ?_)
        · refine C_blk ?_
          refine wp_seq ?_
          refine L_region ?_
          refine L_mv ?_
          refine L_mv ?_
          refine L_u (P_ia se22 h) ?_
          intro v w h
          refine L_u (P_ld sc33 h) ?_
          intro v w h
          refine L_mv ?_
          refine L_u (P_ia se33 h) ?_
          intro v w h
          refine L_u (P_ldn ag31 h) ?_
          intro v w h
          refine L_u (P_al ze31 rfl h) ?_
          intro v w h
          refine L_u (P_stn ag31 h) ?_
          intro w h
          refine L_nil ?_
          refine E_n ?_
          refine wp_seq ?_
          refine wp_seq ?_
          refine D_region (by decide +kernel) 23 rfl ?_
          replace h := dr_e h
          refine G_p 0 rfl (by decide +kernel) (Y_mv h) ?_
          intro v h
          refine G_p 1 rfl (by decide +kernel) (Y_lnl is32 h) ?_
          intro v h
          refine G_p 2 rfl (by decide +kernel) (Y_gt h) ?_
          intro v h
          refine G_p 3 rfl (by decide +kernel) (Y_mv h) ?_
          intro v h
          refine G_rg (t := 33) _ 4 rfl (by decide +kernel) h rfl rfl (fun h => R_ldn ag31 h) ?_
          intro v h
          refine G_pg (t := 33) 5 rfl (by decide +kernel) h rfl rfl (fun h => Y_mv h) ?_
          intro v h
          refine G_pg (t := 33) 6 rfl (by decide +kernel) h rfl rfl (fun h => Y_ia se32 h) ?_
          intro v h
          refine G_rg (t := 33) _ 7 rfl (by decide +kernel) h rfl rfl (fun h => R_ldn ag31 h) ?_
          intro v h
          refine G_eg (t := 33) 8 rfl (by decide +kernel) h rfl rfl (fun c h => N_cl Try.func41 rfl nn41 (fun w Q h => s41 _ _ w Q h) h c) ?_
          intro v w h
          refine ⟨keepF_dep [7] (by decide +kernel) rfl (keepF_dep [4] (by decide +kernel) rfl keepF_nil), ?_⟩
          refine G_p 9 rfl (by decide +kernel) (Y_pk h) ?_
          intro v h
          refine G_p 10 rfl (by decide +kernel) (Y_mv h) ?_
          intro v h
          refine G_pg (t := 40) 11 rfl (by decide +kernel) h rfl rfl (fun h => Y_mv h) ?_
          intro v h
          refine G_pg (t := 40) 12 rfl (by decide +kernel) h rfl rfl (fun h => Y_lnl is32 h) ?_
          intro v h
          refine G_pg (t := 40) 13 rfl (by decide +kernel) h rfl rfl (fun h => Y_gt h) ?_
          intro v h
          refine G_pg (t := 40) 14 rfl (by decide +kernel) h rfl rfl (fun h => Y_mv h) ?_
          intro v h
          refine G_rg (t := 44) _ 15 rfl (by decide +kernel) h rfl rfl (fun h => R_ldn ag31 h) ?_
          intro v h
          refine G_pg (t := 44) 16 rfl (by decide +kernel) h rfl rfl (fun h => Y_mv h) ?_
          intro v h
          refine G_pg (t := 44) 17 rfl (by decide +kernel) h rfl rfl (fun h => Y_ia se32 h) ?_
          intro v h
          refine G_rg (t := 44) _ 18 rfl (by decide +kernel) h rfl rfl (fun h => R_ldn ag31 h) ?_
          intro v h
          refine G_eg (t := 44) 19 rfl (by decide +kernel) h rfl rfl (fun c h => N_cl Try.func41 rfl nn41 (fun w Q h => s41 _ _ w Q h) h c) ?_
          intro v w h
          refine ⟨keepF_dep [18] (by decide +kernel) rfl (keepF_dep [15] (by decide +kernel) rfl (keepF_dep [14, 10, 8, 7] (by decide +kernel) rfl (keepF_dep [14, 10, 8, 4] (by decide +kernel) rfl keepF_nil))), ?_⟩
          refine G_pg (t := 44) 20 rfl (by decide +kernel) h rfl rfl (fun h => Y_nt h) ?_
          intro v h
          refine G_pg (t := 40) 21 rfl (by decide +kernel) h rfl rfl (fun h => Y_pk h) ?_
          intro v h
          refine G_p 22 rfl (by decide +kernel) (Y_pk h) ?_
          intro v h
          refine G_done (by decide +kernel) ?_
          refine E_n ?_
          refine C_cnd h (fun h => ?_) (fun h => ?_)
          · refine C_exit ?_
            refine E_x ?_
            refine B_x ?_
            exact J3 _ _ h
          · refine C_skip ?_
            refine E_n ?_
            refine L_region ?_
            refine L_mv ?_
            refine L_mv ?_
            refine L_mv ?_
            refine L_u (P_ia se22 h) ?_
            intro v w h
            refine L_u (P_ld sc33 h) ?_
            intro v w h
            refine L_u (N_bsl h) ?_
            intro v w h
            refine L_u (N_bi rfl h) ?_
            intro v w h
            refine L_as ?_
            refine L_nil ?_
            refine B_n ?_
            exact J3 _ _ h
        · unfold f21_j3 at h
          refine E_n ?_
          refine L_region ?_
          refine L_mv ?_
          refine L_u (P_ad h) ?_
          intro v w h
          refine L_as ?_
          refine L_nil ?_
          refine E_n ?_
          exact L2 _ _ h
      · refine C_exit ?_
        refine E_x ?_
        refine E_x ?_
        refine B_x ?_
        exact J1 _ _ h
    · unfold f21_j1 at h
      refine E_n ?_
      refine wp_seq ?_
      refine L_region ?_
      refine L_mv ?_
      refine L_as ?_
      refine L_as ?_
      refine L_nil ?_
      refine E_n ?_
      refine C_ret ?_
      show bodyPost Try.prog Try.f21 (Rt Q) .ret _ _
      exact post_tmps (ts := [8, 9]) (.inr rfl) rfl h

/- factotum/relate.Cut -/
def f22_b4 (j3 : Value → Value → Value → Value → Value → M) (self4 : Value → Value → Value → Value → Value → Value → Value → Value → Value → Value → M) (t1_2 t6_1 t7 t8 t14_1 t15_2 t16_1 t21 t22_1 t23 : Value) : M :=
  lt .i64 t23 t22_1 fun t24 =>
  cnd t24 (
    ia 1 t21 t23 fun t25 =>
    ld t25 fun t26 =>
    cl (f42 t8 t26) fun t29 =>
    cnd t29 (
      rt (.tuple #[(.slice none 0 0), (.int .i64 7)])
      ) (
      dr <|
      idv t6_1 fun t30 =>
      idv t7 fun t31 =>
      idv t6_1 fun t32 =>
      idv t7 fun t33 =>
      ia 1 t32 t33 fun t34 =>
      ld t34 fun t35 =>
      idv t8 fun t36 =>
      idv t26 fun t37 =>
      ia 3 t36 t37 fun t38 =>
      ldn 3 t38 fun t39 =>
      sm Try.prog (Instr.buildSlice 33 1 #[(0, t39)]) fun t40 =>
      kp (Kld t34 t35) <|
      sm Try.prog (Builtin.append_ #[33, 33] 33 #[t35, t40]) fun t41 =>
      ia 1 t30 t31 fun t42 =>
      st t42 t41 <|
      ad .i64 t23 (.int .i64 1) fun t43 =>
      self4 t1_2 t6_1 t7 t8 t14_1 t15_2 t16_1 t21 t22_1 t43
      )
    ) (
    j3 t1_2 t6_1 t14_1 t15_2 t16_1
    )
def f22_j3 (self2 : Value → Value → Value → Value → Value → M) (t1_3 t6_2 t14_2 t15_3 t16_2 : Value) : M :=
  ad .i64 t16_2 (.int .i64 1) fun t44 =>
  self2 t1_3 t6_2 t14_2 t15_3 t44
def f22_b2 (j1 : Value → M) (self2 : Value → Value → Value → Value → Value → M) (t1_1 t6 t14 t15_1 t16 : Value) : M :=
  lt .i64 t16 t15_1 fun t17 =>
  cnd t17 (
    ia 1 t14 t16 fun t19 =>
    ld t19 fun t20 =>
    lnl t1_1 fun t22 =>
    jn (fun (j3 : Value → Value → Value → Value → Value → M) =>
      lo (fun _ _ _ _ _ _ _ _ _ _ => bot) (f22_b4 j3) (fun l => l t1_1 t6 t16 t20 t14 t15_1 t16 t1_1 t22 (.int .i64 0))
      ) (f22_j3 self2)
    ) (
    j1 t6
    )
def f22_j1 (t6_3 : Value) : M :=
  rt (.tuple #[t6_3, (.int .i64 0)])
def f22 (t0 t1 : Value) : M :=
  lnl t0 fun t12 =>
  sm Try.prog (Instr.makeSlice 22 t12 t12) fun t13 =>
  lnl t0 fun t15 =>
  jn (fun (j1 : Value → M) =>
    lo (fun _ _ _ _ _ => bot) (f22_b2 j1) (fun l => l t1 t13 t0 t15 (.int .i64 0))
    ) (f22_j1)
theorem s22 (t0 t1 : Value) (w : World) (Q : Value → World → Prop) (h : f22 t0 t1 w Q) : Calls Try.prog 22 #[t0, t1] w (Rt Q) := by
  refine calls_of (l := [t0, t1]) Try.func22 rfl Try.ntmps22 (Nat.le_of_ble_eq_true rfl) ?_
  unfold f22 at h
  refine wp_seq ?_
  refine L_region ?_
  refine L_as ?_
  refine L_as ?_
  refine L_nil ?_
  refine E_n ?_
  refine wp_seq ?_
  refine L_region ?_
  refine L_mv ?_
  refine L_u (P_lnl is22 h) ?_
  intro v w h
  refine L_u (P_sm rfl h) ?_
  intro v w h
  refine L_as ?_
  refine L_nil ?_
  refine E_n ?_
  refine wp_seq ?_
  refine wp_seq ?_
  refine L_region ?_
  refine L_mv ?_
  refine L_u (P_lnl is22 h) ?_
  intro v w h
  refine L_mv ?_
  refine L_nil ?_
  refine E_n ?_
  refine C_join (fun (k : Value → M) (ρ : Nat → Value) => k (ρ 6)) h (fun j1 J1 h => ?_) (fun ρ w h => ?_)
  · refine C_blk ?_
    refine C_lo (fun (l : Value → Value → Value → Value → Value → M) (ρ : Nat → Value) => l (ρ 1) (ρ 6) (ρ 14) (ρ 15) (ρ 16)) h (fun ρ w h => h) (fun nx self2 L2 ρ w h => ?_)
    unfold f22_b2 at h
    refine wp_seq ?_
    refine L_region ?_
    refine L_u (P_lt h) ?_
    intro v w h
    refine L_nil ?_
    refine E_n ?_
    refine wp_seq ?_
    refine C_cnd h (fun h => ?_) (fun h => ?_)
    · refine C_skip ?_
      refine E_n ?_
      refine wp_seq ?_
      refine C_blk ?_
      refine wp_seq ?_
      refine L_region ?_
      refine L_mv ?_
      refine L_u (P_ia se22 h) ?_
      intro v w h
      refine L_u (P_ld sc33 h) ?_
      intro v w h
      refine L_as ?_
      refine L_as ?_
      refine L_nil ?_
      refine E_n ?_
      refine wp_seq ?_
      refine L_region ?_
      refine L_mv ?_
      refine L_u (P_lnl is43 h) ?_
      intro v w h
      refine L_mv ?_
      refine L_nil ?_
      refine E_n ?_
      refine C_join (fun (k : Value → Value → Value → Value → Value → M) (ρ : Nat → Value) => k (ρ 1) (ρ 6) (ρ 14) (ρ 15) (ρ 16)) h (fun j3 J3 h => ?_) (fun ρ w h => ?_)
      · refine C_blk ?_
        refine C_lo (fun (l : Value → Value → Value → Value → Value → Value → Value → Value → Value → Value → M) (ρ : Nat → Value) => l (ρ 1) (ρ 6) (ρ 7) (ρ 8) (ρ 14) (ρ 15) (ρ 16) (ρ 21) (ρ 22) (ρ 23)) h (fun ρ w h => h) (fun nx self4 L4 ρ w h => ?_)
        unfold f22_b4 at h
        refine wp_seq ?_
        refine L_region ?_
        refine L_u (P_lt h) ?_
        intro v w h
        refine L_nil ?_
        refine E_n ?_
        refine wp_seq ?_
        refine C_cnd h (fun h => ?_) (fun h => ?_)
        · refine C_skip ?_
          refine E_n ?_
          refine wp_seq ?_
          refine C_blk ?_
          refine wp_seq ?_
          refine L_region ?_
          refine L_u (P_ia se43 h) ?_
          intro v w h
          refine L_u (P_ld sc3 h) ?_
          intro v w h
          refine L_as ?_
          refine L_nil ?_
          refine E_n ?_
          refine wp_seq ?_
          refine wp_seq ?_
          refine L_region ?_
          refine L_mv ?_
          refine L_mv ?_
          refine L_u (N_cl Try.func42 rfl nn42 (fun w Q h => s42 _ _ w Q h) h) ?_
          intro v w h
          refine L_nil ?_
          refine E_n ?_
          refine C_cnd h (fun h => ?_) (fun h => ?_)
          · refine wp_seq ?_
            refine L_region ?_
            refine L_as ?_
            refine L_as ?_
            refine L_nil ?_
            refine E_n ?_
            refine C_ret ?_
            show bodyPost Try.prog Try.f22 (Rt Q) .ret _ _
            exact post_tmps (ts := [4, 5]) (.inr rfl) rfl h
          · refine C_skip ?_
            refine E_n ?_
            refine D_region (by decide +kernel) 14 rfl ?_
            replace h := dr_e h
            refine G_p 0 rfl (by decide +kernel) (Y_mv h) ?_
            intro v h
            refine G_p 1 rfl (by decide +kernel) (Y_mv h) ?_
            intro v h
            refine G_p 2 rfl (by decide +kernel) (Y_mv h) ?_
            intro v h
            refine G_p 3 rfl (by decide +kernel) (Y_mv h) ?_
            intro v h
            refine G_p 4 rfl (by decide +kernel) (Y_ia se22 h) ?_
            intro v h
            refine G_r _ 5 rfl (by decide +kernel) (R_ld sc33 h) ?_
            intro v h
            refine G_p 6 rfl (by decide +kernel) (Y_mv h) ?_
            intro v h
            refine G_p 7 rfl (by decide +kernel) (Y_mv h) ?_
            intro v h
            refine G_p 8 rfl (by decide +kernel) (Y_ia se33 h) ?_
            intro v h
            refine G_r _ 9 rfl (by decide +kernel) (R_ldn ag31 h) ?_
            intro v h
            refine G_e 10 rfl (by decide +kernel) (N_bsl h ?_)
            intro v w h
            refine ⟨keepF_dep [9] (by decide +kernel) rfl (keepF_cons (kp_1 h) keepF_nil), ?_⟩
            replace h := (kp_2 h)
            refine G_e 11 rfl (by decide +kernel) (N_bi rfl h ?_)
            intro v w h
            refine ⟨keepF_dep [10, 9] (by decide +kernel) rfl (keepF_dep [5] (by decide +kernel) rfl keepF_nil), ?_⟩
            refine G_p 12 rfl (by decide +kernel) (Y_ia se22 h) ?_
            intro v h
            refine G_e 13 rfl (by decide +kernel) (P_st on33 h ?_)
            intro w h
            refine ⟨keepF_dep [9] (by decide +kernel) rfl (keepF_dep [5] (by decide +kernel) rfl keepF_nil), ?_⟩
            refine G_done (by decide +kernel) ?_
            refine B_n ?_
            refine E_n ?_
            refine L_region ?_
            refine L_u (P_ad h) ?_
            intro v w h
            refine L_mv ?_
            refine L_nil ?_
            refine E_n ?_
            exact L4 _ _ h
        · refine C_exit ?_
          refine E_x ?_
          refine E_x ?_
          refine B_x ?_
          exact J3 _ _ h
      · unfold f22_j3 at h
        refine B_n ?_
        refine E_n ?_
        refine L_region ?_
        refine L_u (P_ad h) ?_
        intro v w h
        refine L_mv ?_
        refine L_nil ?_
        refine E_n ?_
        exact L2 _ _ h
    · refine C_exit ?_
      refine E_x ?_
      refine E_x ?_
      refine B_x ?_
      exact J1 _ _ h
  · unfold f22_j1 at h
    refine E_n ?_
    refine wp_seq ?_
    refine L_region ?_
    refine L_mv ?_
    refine L_as ?_
    refine L_as ?_
    refine L_nil ?_
    refine E_n ?_
    refine C_ret ?_
    show bodyPost Try.prog Try.f22 (Rt Q) .ret _ _
    exact post_tmps (ts := [4, 5]) (.inr rfl) rfl h

/- factotum/factotumref31.Cut -/
def f23_b4 (j3 : Value → Value → Value → Value → Value → M) (self4 : Value → Value → Value → Value → Value → Value → M) (t0_2 t1_2 t6_1 t7_1 t8 t9 : Value) : M :=
  lnl t1_2 fun t18 =>
  lt .i64 t9 t18 fun t19 =>
  cnd t19 (
    dr <|
    idv t1_2 fun t22 =>
    idv t9 fun t23 =>
    ia 1 t22 t23 fun t24 =>
    ld t24 fun t25 =>
    lt .i64 t25 (.int .i64 0) fun t26 =>
    idv t26 fun t27 =>
    gd t27 false (idv t1_2) fun t28 =>
    gd t27 false (idv t9) fun t29 =>
    gd t27 false (ia 1 t28 t29) fun t30 =>
    gd t27 false (ld t30) fun t31 =>
    gd t27 false (idv t0_2) fun t32 =>
    gd t27 false (idv t7_1) fun t33 =>
    gd t27 false (ia 1 t32 t33) fun t34 =>
    gd t27 false (ld t34) fun t35 =>
    gd t27 false (lnl t35) fun t36 =>
    gd t27 false (ge .i64 t31 t36) fun t37 =>
    pk t27 (.bool true) t37 fun t38 =>
    cnd t38 (
      rt (.tuple #[(.slice none 0 0), (.int .i64 7)])
      ) (
      dr <|
      idv t8 fun t39 =>
      idv t0_2 fun t40 =>
      idv t7_1 fun t41 =>
      ia 1 t40 t41 fun t42 =>
      ld t42 fun t43 =>
      idv t1_2 fun t44 =>
      idv t9 fun t45 =>
      ia 1 t44 t45 fun t46 =>
      ld t46 fun t47 =>
      ia 3 t43 t47 fun t48 =>
      ldn 3 t48 fun t49 =>
      sm Try.prog (Instr.buildSlice 33 1 #[(0, t49)]) fun t50 =>
      sm Try.prog (Builtin.append_ #[33, 33] 33 #[t39, t50]) fun t51 =>
      idv t51 fun t8_1 =>
      ad .i64 t9 (.int .i64 1) fun t21 =>
      self4 t0_2 t1_2 t6_1 t7_1 t8_1 t21
      )
    ) (
    j3 t0_2 t1_2 t6_1 t7_1 t8
    )
def f23_j3 (self2 : Value → Value → Value → Value → M) (t0_3 t1_3 t6_2 t7_2 t8_2 : Value) : M :=
  sm Try.prog (Instr.buildSlice 22 1 #[(0, t8_2)]) fun t54 =>
  sm Try.prog (Builtin.append_ #[22, 22] 22 #[t6_2, t54]) fun t55 =>
  ad .i64 t7_2 (.int .i64 1) fun t15 =>
  self2 t0_3 t1_3 t55 t15
def f23_b2 (j1 : Value → M) (self2 : Value → Value → Value → Value → M) (t0_1 t1_1 t6 t7 : Value) : M :=
  lnl t0_1 fun t12 =>
  lt .i64 t7 t12 fun t13 =>
  cnd t13 (
    jn (fun (j3 : Value → Value → Value → Value → Value → M) =>
      lo (fun _ _ _ _ _ _ => bot) (f23_b4 j3) (fun l => l t0_1 t1_1 t6 t7 (.slice none 0 0) (.int .i64 0))
      ) (f23_j3 self2)
    ) (
    j1 t6
    )
def f23_j1 (t6_3 : Value) : M :=
  rt (.tuple #[t6_3, (.int .i64 0)])
def f23 (t0 t1 : Value) : M :=
  jn (fun (j1 : Value → M) =>
    lo (fun _ _ _ _ => bot) (f23_b2 j1) (fun l => l t0 t1 (.slice none 0 0) (.int .i64 0))
    ) (f23_j1)
theorem s23 (t0 t1 : Value) (w : World) (Q : Value → World → Prop) (h : f23 t0 t1 w Q) : Calls Try.prog 23 #[t0, t1] w (Rt Q) := by
  refine calls_of (l := [t0, t1]) Try.func23 rfl Try.ntmps23 (Nat.le_of_ble_eq_true rfl) ?_
  unfold f23 at h
  refine wp_seq ?_
  refine L_region ?_
  refine L_as ?_
  refine L_as ?_
  refine L_nil ?_
  refine E_n ?_
  refine wp_seq ?_
  refine L_region ?_
  refine L_as ?_
  refine L_nil ?_
  refine E_n ?_
  refine wp_seq ?_
  refine wp_seq ?_
  refine L_region ?_
  refine L_as ?_
  refine L_nil ?_
  refine E_n ?_
  refine C_join (fun (k : Value → M) (ρ : Nat → Value) => k (ρ 6)) h (fun j1 J1 h => ?_) (fun ρ w h => ?_)
  · refine C_blk ?_
    refine C_lo (fun (l : Value → Value → Value → Value → M) (ρ : Nat → Value) => l (ρ 0) (ρ 1) (ρ 6) (ρ 7)) h (fun ρ w h => h) (fun nx self2 L2 ρ w h => ?_)
    unfold f23_b2 at h
    refine wp_seq ?_
    refine wp_seq ?_
    refine L_region ?_
    refine L_mv ?_
    refine L_mv ?_
    refine L_u (P_lnl is22 h) ?_
    intro v w h
    refine L_u (P_lt h) ?_
    intro v w h
    refine L_nil ?_
    refine E_n ?_
    refine C_cnd h (fun h => ?_) (fun h => ?_)
    · refine C_skip ?_
      refine E_n ?_
      refine wp_seq ?_
      refine C_blk ?_
      refine wp_seq ?_
      refine L_region ?_
      refine L_as ?_
      refine L_nil ?_
      refine E_n ?_
      refine wp_seq ?_
      refine wp_seq ?_
      refine L_region ?_
      refine L_as ?_
      refine L_nil ?_
      refine E_n ?_
      refine C_join (fun (k : Value → Value → Value → Value → Value → M) (ρ : Nat → Value) => k (ρ 0) (ρ 1) (ρ 6) (ρ 7) (ρ 8)) h (fun j3 J3 h => ?_) (fun ρ w h => ?_)
      · refine C_blk ?_
        refine C_lo (fun (l : Value → Value → Value → Value → Value → Value → M) (ρ : Nat → Value) => l (ρ 0) (ρ 1) (ρ 6) (ρ 7) (ρ 8) (ρ 9)) h (fun ρ w h => h) (fun nx self4 L4 ρ w h => ?_)
        unfold f23_b4 at h
        refine wp_seq ?_
        refine wp_seq ?_
        refine L_region ?_
        refine L_mv ?_
        refine L_mv ?_
        refine L_u (P_lnl is43 h) ?_
        intro v w h
        refine L_u (P_lt h) ?_
        intro v w h
        refine L_nil ?_
        refine E_n ?_
        refine C_cnd h (fun h => ?_) (fun h => ?_)
        · refine C_skip ?_
          refine E_n ?_
          refine wp_seq ?_
          refine C_blk ?_
          refine wp_seq ?_
          refine wp_seq ?_
          refine D_region (by decide +kernel) 17 rfl ?_
          replace h := dr_e h
          refine G_p 0 rfl (by decide +kernel) (Y_mv h) ?_
          intro v h
          refine G_p 1 rfl (by decide +kernel) (Y_mv h) ?_
          intro v h
          refine G_p 2 rfl (by decide +kernel) (Y_ia se43 h) ?_
          intro v h
          refine G_r _ 3 rfl (by decide +kernel) (R_ld sc3 h) ?_
          intro v h
          refine G_p 4 rfl (by decide +kernel) (Y_lt h) ?_
          intro v h
          refine G_p 5 rfl (by decide +kernel) (Y_mv h) ?_
          intro v h
          refine G_pg (t := 27) 6 rfl (by decide +kernel) h rfl rfl (fun h => Y_mv h) ?_
          intro v h
          refine G_pg (t := 27) 7 rfl (by decide +kernel) h rfl rfl (fun h => Y_mv h) ?_
          intro v h
          refine G_pg (t := 27) 8 rfl (by decide +kernel) h rfl rfl (fun h => Y_ia se43 h) ?_
          intro v h
          refine G_rg (t := 27) _ 9 rfl (by decide +kernel) h rfl rfl (fun h => R_ld sc3 h) ?_
          intro v h
          refine G_pg (t := 27) 10 rfl (by decide +kernel) h rfl rfl (fun h => Y_mv h) ?_
          intro v h
          refine G_pg (t := 27) 11 rfl (by decide +kernel) h rfl rfl (fun h => Y_mv h) ?_
          intro v h
          refine G_pg (t := 27) 12 rfl (by decide +kernel) h rfl rfl (fun h => Y_ia se22 h) ?_
          intro v h
          refine G_rg (t := 27) _ 13 rfl (by decide +kernel) h rfl rfl (fun h => R_ld sc33 h) ?_
          intro v h
          refine G_pg (t := 27) 14 rfl (by decide +kernel) h rfl rfl (fun h => Y_lnl is33 h) ?_
          intro v h
          refine G_pg (t := 27) 15 rfl (by decide +kernel) h rfl rfl (fun h => Y_ge h) ?_
          intro v h
          refine G_p 16 rfl (by decide +kernel) (Y_pk h) ?_
          intro v h
          refine G_done (by decide +kernel) ?_
          refine E_n ?_
          refine C_cnd h (fun h => ?_) (fun h => ?_)
          · refine wp_seq ?_
            refine L_region ?_
            refine L_as ?_
            refine L_as ?_
            refine L_nil ?_
            refine E_n ?_
            refine C_ret ?_
            show bodyPost Try.prog Try.f23 (Rt Q) .ret _ _
            exact post_tmps (ts := [4, 5]) (.inr rfl) rfl h
          · refine C_skip ?_
            refine E_n ?_
            refine D_region (by decide +kernel) 14 rfl ?_
            replace h := dr_e h
            refine G_p 0 rfl (by decide +kernel) (Y_mv h) ?_
            intro v h
            refine G_p 1 rfl (by decide +kernel) (Y_mv h) ?_
            intro v h
            refine G_p 2 rfl (by decide +kernel) (Y_mv h) ?_
            intro v h
            refine G_p 3 rfl (by decide +kernel) (Y_ia se22 h) ?_
            intro v h
            refine G_r _ 4 rfl (by decide +kernel) (R_ld sc33 h) ?_
            intro v h
            refine G_p 5 rfl (by decide +kernel) (Y_mv h) ?_
            intro v h
            refine G_p 6 rfl (by decide +kernel) (Y_mv h) ?_
            intro v h
            refine G_p 7 rfl (by decide +kernel) (Y_ia se43 h) ?_
            intro v h
            refine G_r _ 8 rfl (by decide +kernel) (R_ld sc3 h) ?_
            intro v h
            refine G_p 9 rfl (by decide +kernel) (Y_ia se33 h) ?_
            intro v h
            refine G_r _ 10 rfl (by decide +kernel) (R_ldn ag31 h) ?_
            intro v h
            refine G_e 11 rfl (by decide +kernel) (N_bsl h ?_)
            intro v w h
            refine ⟨keepF_dep [10] (by decide +kernel) rfl (keepF_dep [10, 9, 8] (by decide +kernel) rfl (keepF_dep [10, 9, 4] (by decide +kernel) rfl keepF_nil)), ?_⟩
            refine G_e 12 rfl (by decide +kernel) (N_bi rfl h ?_)
            intro v w h
            refine ⟨keepF_dep [11, 10] (by decide +kernel) rfl (keepF_dep [11, 10, 9, 8] (by decide +kernel) rfl (keepF_dep [11, 10, 9, 4] (by decide +kernel) rfl keepF_nil)), ?_⟩
            refine G_p 13 rfl (by decide +kernel) (Y_as h) ?_
            intro v h
            refine G_done (by decide +kernel) ?_
            refine B_n ?_
            refine E_n ?_
            refine L_region ?_
            refine L_mv ?_
            refine L_u (P_ad h) ?_
            intro v w h
            refine L_as ?_
            refine L_nil ?_
            refine E_n ?_
            exact L4 _ _ h
        · refine C_exit ?_
          refine E_x ?_
          refine E_x ?_
          refine B_x ?_
          exact J3 _ _ h
      · unfold f23_j3 at h
        refine E_n ?_
        refine L_region ?_
        refine L_mv ?_
        refine L_mv ?_
        refine L_u (N_bsl h) ?_
        intro v w h
        refine L_u (N_bi rfl h) ?_
        intro v w h
        refine L_as ?_
        refine L_nil ?_
        refine B_n ?_
        refine E_n ?_
        refine L_region ?_
        refine L_mv ?_
        refine L_u (P_ad h) ?_
        intro v w h
        refine L_as ?_
        refine L_nil ?_
        refine E_n ?_
        exact L2 _ _ h
    · refine C_exit ?_
      refine E_x ?_
      refine E_x ?_
      refine B_x ?_
      exact J1 _ _ h
  · unfold f23_j1 at h
    refine E_n ?_
    refine wp_seq ?_
    refine L_region ?_
    refine L_mv ?_
    refine L_as ?_
    refine L_as ?_
    refine L_nil ?_
    refine E_n ?_
    refine C_ret ?_
    show bodyPost Try.prog Try.f23 (Rt Q) .ret _ _
    exact post_tmps (ts := [4, 5]) (.inr rfl) rfl h

/- factotum/factotumref31.Sort -/
def f24_b4 (j3 : Value → Value → Value → Value → Value → M) (self4 : Value → Value → Value → Value → Value → M) (t0_2 t1_2 t6_1 t7_1 t8 : Value) : M :=
  dr <|
  idv t8 fun t21 =>
  gt .i64 t21 (.int .i64 0) fun t22 =>
  idv t22 fun t23 =>
  gd t23 true (idv t0_2) fun t24 =>
  gd t23 true (idv t7_1) fun t25 =>
  gd t23 true (ia 1 t24 t25) fun t26 =>
  gd t23 true (ld t26) fun t27 =>
  gd t23 true (idv t1_2) fun t28 =>
  gd t23 true (ia 3 t27 t28) fun t29 =>
  gd t23 true (ldn 3 t29) fun t30 =>
  gd t23 true (idv t6_1) fun t31 =>
  gd t23 true (idv t8) fun t32 =>
  gd t23 true (su .i64 t32 (.int .i64 1)) fun t33 =>
  gd t23 true (ia 1 t31 t33) fun t34 =>
  gd t23 true (ld t34) fun t35 =>
  gd t23 true (idv t1_2) fun t36 =>
  gd t23 true (ia 3 t35 t36) fun t37 =>
  gd t23 true (ldn 3 t37) fun t38 =>
  gd t23 true (cl (f41 t30 t38)) fun t39 =>
  pk t23 t39 (.bool false) fun t40 =>
  cnd t40 (
    su .i64 t8 (.int .i64 1) fun t42 =>
    self4 t0_2 t1_2 t6_1 t7_1 t42
    ) (
    j3 t0_2 t1_2 t6_1 t7_1 t8
    )
def f24_j5 (self2 : Value → Value → Value → Value → M) (t0_4 t1_4 t6_5 t7_3 : Value) : M :=
  ad .i64 t7_3 (.int .i64 1) fun t18 =>
  self2 t0_4 t1_4 t6_5 t18
def f24_j3 (self2 : Value → Value → Value → Value → M) (t0_3 t1_3 t6_2 t7_2 t8_1 : Value) : M :=
  jn (fun (j5 : Value → Value → Value → Value → M) =>
    dr <|
    idv t6_2 fun t43 =>
    idv t8_1 fun t44 =>
    sll 1 t43 none (some t44) fun t45 =>
    idv t0_3 fun t47 =>
    idv t7_2 fun t48 =>
    ia 1 t47 t48 fun t49 =>
    ld t49 fun t50 =>
    idv t6_2 fun t53 =>
    idv t8_1 fun t54 =>
    sll 1 t53 (some t54) none fun t55 =>
    amb (
      sm Try.prog (Builtin.append_ #[22, 22] 22 #[(.slice none 0 0), t45]) fun t46 =>
      kp (Kld t49 t50) <|
      sm Try.prog (Instr.buildSlice 22 1 #[(0, t50)]) fun t51_1 =>
      sm Try.prog (Builtin.append_ #[22, 22] 22 #[t46, t51_1]) fun t52 =>
      sm Try.prog (Builtin.append_ #[22, 22] 22 #[t52, t55]) fun t56 =>
      idv t56 fun t6_3 =>
      j5 t0_3 t1_3 t6_3 t7_2
      ) (
      sm Try.prog (Instr.buildSlice 22 1 #[(0, t50)]) fun t51 =>
      sm Try.prog (Builtin.append_ #[22, 22] 22 #[(.slice none 0 0), t45]) fun t46_1 =>
      kp (Kld t49 t50) <|
      sm Try.prog (Builtin.append_ #[22, 22] 22 #[t46_1, t51]) fun t52_1 =>
      sm Try.prog (Builtin.append_ #[22, 22] 22 #[t52_1, t55]) fun t56_1 =>
      idv t56_1 fun t6_4 =>
      j5 t0_3 t1_3 t6_4 t7_2
      )
    ) (f24_j5 self2)
def f24_b2 (j1 : Value → M) (self2 : Value → Value → Value → Value → M) (t0_1 t1_1 t6 t7 : Value) : M :=
  lnl t0_1 fun t15 =>
  lt .i64 t7 t15 fun t16 =>
  cnd t16 (
    lnl t6 fun t20 =>
    jn (fun (j3 : Value → Value → Value → Value → Value → M) =>
      lo (fun _ _ _ _ _ => bot) (f24_b4 j3) (fun l => l t0_1 t1_1 t6 t7 t20)
      ) (f24_j3 self2)
    ) (
    j1 t6
    )
def f24_j1 (t6_6 : Value) : M :=
  rt (.tuple #[t6_6, (.int .i64 0)])
def f24 (t0 t1 : Value) : M :=
  cl (f28 t0 t1) fun t11 =>
  nt t11 fun t12 =>
  cnd t12 (
    rt (.tuple #[(.slice none 0 0), (.int .i64 7)])
    ) (
    jn (fun (j1 : Value → M) =>
      lo (fun _ _ _ _ => bot) (f24_b2 j1) (fun l => l t0 t1 (.slice none 0 0) (.int .i64 0))
      ) (f24_j1)
    )
theorem s24 (t0 t1 : Value) (w : World) (Q : Value → World → Prop) (h : f24 t0 t1 w Q) : Calls Try.prog 24 #[t0, t1] w (Rt Q) := by
  refine calls_of (l := [t0, t1]) Try.func24 rfl Try.ntmps24 (Nat.le_of_ble_eq_true rfl) ?_
  unfold f24 at h
  refine wp_seq ?_
  refine L_region ?_
  refine L_as ?_
  refine L_as ?_
  refine L_nil ?_
  refine E_n ?_
  refine wp_seq ?_
  refine wp_seq ?_
  refine L_region ?_
  refine L_mv ?_
  refine L_mv ?_
  refine L_u (N_cl Try.func28 rfl nn28 (fun w Q h => s28 _ _ w Q h) h) ?_
  intro v w h
  refine L_u (P_nt h) ?_
  intro v w h
  refine L_nil ?_
  refine E_n ?_
  refine C_cnd h (fun h => ?_) (fun h => ?_)
  · refine wp_seq ?_
    refine L_region ?_
    refine L_as ?_
    refine L_as ?_
    refine L_nil ?_
    refine E_n ?_
    refine C_ret ?_
    show bodyPost Try.prog Try.f24 (Rt Q) .ret _ _
    exact post_tmps (ts := [4, 5]) (.inr rfl) rfl h
  · refine C_skip ?_
    refine E_n ?_
    refine wp_seq ?_
    refine L_region ?_
    refine L_as ?_
    refine L_nil ?_
    refine E_n ?_
    refine wp_seq ?_
    refine wp_seq ?_
    refine L_region ?_
    refine L_as ?_
    refine L_nil ?_
    refine E_n ?_
    refine C_join (fun (k : Value → M) (ρ : Nat → Value) => k (ρ 6)) h (fun j1 J1 h => ?_) (fun ρ w h => ?_)
    · refine C_blk ?_
      refine C_lo (fun (l : Value → Value → Value → Value → M) (ρ : Nat → Value) => l (ρ 0) (ρ 1) (ρ 6) (ρ 7)) h (fun ρ w h => h) (fun nx self2 L2 ρ w h => ?_)
      unfold f24_b2 at h
      refine wp_seq ?_
      refine wp_seq ?_
      refine L_region ?_
      refine L_mv ?_
      refine L_mv ?_
      refine L_u (P_lnl is22 h) ?_
      intro v w h
      refine L_u (P_lt h) ?_
      intro v w h
      refine L_nil ?_
      refine E_n ?_
      refine C_cnd h (fun h => ?_) (fun h => ?_)
      · refine C_skip ?_
        refine E_n ?_
        refine wp_seq ?_
        refine C_blk ?_
        refine wp_seq ?_
        refine L_region ?_
        refine L_mv ?_
        refine L_u (P_lnl is22 h) ?_
        intro v w h
        refine L_as ?_
        refine L_nil ?_
        refine E_n ?_
        refine wp_seq ?_
        refine C_join (fun (k : Value → Value → Value → Value → Value → M) (ρ : Nat → Value) => k (ρ 0) (ρ 1) (ρ 6) (ρ 7) (ρ 8)) h (fun j3 J3 h => ?_) (fun ρ w h => ?_)
        · refine C_blk ?_
          refine C_lo (fun (l : Value → Value → Value → Value → Value → M) (ρ : Nat → Value) => l (ρ 0) (ρ 1) (ρ 6) (ρ 7) (ρ 8)) h (fun ρ w h => h) (fun nx self4 L4 ρ w h => ?_)
          unfold f24_b4 at h
          refine wp_seq ?_
          refine wp_seq ?_
          refine D_region (by decide +kernel) 20 rfl ?_
          replace h := dr_e h
          refine G_p 0 rfl (by decide +kernel) (Y_mv h) ?_
          intro v h
          refine G_p 1 rfl (by decide +kernel) (Y_gt h) ?_
          intro v h
          refine G_p 2 rfl (by decide +kernel) (Y_mv h) ?_
          intro v h
          refine G_pg (t := 23) 3 rfl (by decide +kernel) h rfl rfl (fun h => Y_mv h) ?_
          intro v h
          refine G_pg (t := 23) 4 rfl (by decide +kernel) h rfl rfl (fun h => Y_mv h) ?_
          intro v h
          refine G_pg (t := 23) 5 rfl (by decide +kernel) h rfl rfl (fun h => Y_ia se22 h) ?_
          intro v h
          refine G_rg (t := 23) _ 6 rfl (by decide +kernel) h rfl rfl (fun h => R_ld sc33 h) ?_
          intro v h
          refine G_pg (t := 23) 7 rfl (by decide +kernel) h rfl rfl (fun h => Y_mv h) ?_
          intro v h
          refine G_pg (t := 23) 8 rfl (by decide +kernel) h rfl rfl (fun h => Y_ia se33 h) ?_
          intro v h
          refine G_rg (t := 23) _ 9 rfl (by decide +kernel) h rfl rfl (fun h => R_ldn ag31 h) ?_
          intro v h
          refine G_pg (t := 23) 10 rfl (by decide +kernel) h rfl rfl (fun h => Y_mv h) ?_
          intro v h
          refine G_pg (t := 23) 11 rfl (by decide +kernel) h rfl rfl (fun h => Y_mv h) ?_
          intro v h
          refine G_pg (t := 23) 12 rfl (by decide +kernel) h rfl rfl (fun h => Y_su h) ?_
          intro v h
          refine G_pg (t := 23) 13 rfl (by decide +kernel) h rfl rfl (fun h => Y_ia se22 h) ?_
          intro v h
          refine G_rg (t := 23) _ 14 rfl (by decide +kernel) h rfl rfl (fun h => R_ld sc33 h) ?_
          intro v h
          refine G_pg (t := 23) 15 rfl (by decide +kernel) h rfl rfl (fun h => Y_mv h) ?_
          intro v h
          refine G_pg (t := 23) 16 rfl (by decide +kernel) h rfl rfl (fun h => Y_ia se33 h) ?_
          intro v h
          refine G_rg (t := 23) _ 17 rfl (by decide +kernel) h rfl rfl (fun h => R_ldn ag31 h) ?_
          intro v h
          refine G_eg (t := 23) 18 rfl (by decide +kernel) h rfl rfl (fun c h => N_cl Try.func41 rfl nn41 (fun w Q h => s41 _ _ w Q h) h c) ?_
          intro v w h
          refine ⟨keepF_dep [17] (by decide +kernel) rfl (keepF_dep [17, 16, 14] (by decide +kernel) rfl (keepF_dep [9] (by decide +kernel) rfl (keepF_dep [9, 8, 6] (by decide +kernel) rfl keepF_nil))), ?_⟩
          refine G_p 19 rfl (by decide +kernel) (Y_pk h) ?_
          intro v h
          refine G_done (by decide +kernel) ?_
          refine E_n ?_
          refine C_cnd h (fun h => ?_) (fun h => ?_)
          · refine C_skip ?_
            refine E_n ?_
            refine C_blk ?_
            refine L_region ?_
            refine L_mv ?_
            refine L_u (P_su h) ?_
            intro v w h
            refine L_as ?_
            refine L_nil ?_
            refine B_n ?_
            refine E_n ?_
            exact L4 _ _ h
          · refine C_exit ?_
            refine E_x ?_
            refine E_x ?_
            refine B_x ?_
            exact J3 _ _ h
        · unfold f24_j3 at h
          refine E_n ?_
          refine C_join (fun (k : Value → Value → Value → Value → M) (ρ : Nat → Value) => k (ρ 0) (ρ 1) (ρ 6) (ρ 7)) h (fun j5 J5 h => ?_) (fun ρ w h => ?_)
          · refine D_region (by decide +kernel) 15 rfl ?_
            replace h := dr_e h
            refine G_p 0 rfl (by decide +kernel) (Y_mv h) ?_
            intro v h
            refine G_p 1 rfl (by decide +kernel) (Y_mv h) ?_
            intro v h
            refine G_p 2 rfl (by decide +kernel) (Y_sll se22 h) ?_
            intro v h
            refine G_p 4 rfl (by decide +kernel) (Y_mv h) ?_
            intro v h
            refine G_p 5 rfl (by decide +kernel) (Y_mv h) ?_
            intro v h
            refine G_p 6 rfl (by decide +kernel) (Y_ia se22 h) ?_
            intro v h
            refine G_r _ 7 rfl (by decide +kernel) (R_ld sc33 h) ?_
            intro v h
            refine G_p 10 rfl (by decide +kernel) (Y_mv h) ?_
            intro v h
            refine G_p 11 rfl (by decide +kernel) (Y_mv h) ?_
            intro v h
            refine G_p 12 rfl (by decide +kernel) (Y_sll se22 h) ?_
            intro v h
            refine G_two (i := 3) (j := 8) (by decide +kernel) (G_op rfl (N_bi rfl (amb_1 h) ?_)) (G_op rfl (N_bsl (amb_2 h) ?_))
            · intro v w h
              refine ⟨keepF_cons (kp_1 h) keepF_nil, ?_⟩
              replace h := (kp_2 h)
              refine G_e 8 rfl (by decide +kernel) (N_bsl h ?_)
              intro v w h
              refine ⟨keepF_dep [7] (by decide +kernel) rfl keepF_nil, ?_⟩
              refine G_e 9 rfl (by decide +kernel) (N_bi rfl h ?_)
              intro v w h
              refine ⟨keepF_dep [8, 7] (by decide +kernel) rfl keepF_nil, ?_⟩
              refine G_e 13 rfl (by decide +kernel) (N_bi rfl h ?_)
              intro v w h
              refine ⟨keepF_dep [9, 8, 7] (by decide +kernel) rfl keepF_nil, ?_⟩
              refine G_p 14 rfl (by decide +kernel) (Y_as h) ?_
              intro v h
              refine G_done (by decide +kernel) ?_
              exact J5 _ _ h
            · intro v w h
              refine ⟨keepF_dep [7] (by decide +kernel) rfl keepF_nil, ?_⟩
              refine G_e 3 rfl (by decide +kernel) (N_bi rfl h ?_)
              intro v w h
              refine ⟨keepF_cons (kp_1 h) keepF_nil, ?_⟩
              replace h := (kp_2 h)
              refine G_e 9 rfl (by decide +kernel) (N_bi rfl h ?_)
              intro v w h
              refine ⟨keepF_dep [8, 7] (by decide +kernel) rfl keepF_nil, ?_⟩
              refine G_e 13 rfl (by decide +kernel) (N_bi rfl h ?_)
              intro v w h
              refine ⟨keepF_dep [9, 8, 7] (by decide +kernel) rfl keepF_nil, ?_⟩
              refine G_p 14 rfl (by decide +kernel) (Y_as h) ?_
              intro v h
              refine G_done (by decide +kernel) ?_
              exact J5 _ _ h
          · unfold f24_j5 at h
            refine B_n ?_
            refine E_n ?_
            refine L_region ?_
            refine L_mv ?_
            refine L_u (P_ad h) ?_
            intro v w h
            refine L_as ?_
            refine L_nil ?_
            refine E_n ?_
            exact L2 _ _ h
      · refine C_exit ?_
        refine E_x ?_
        refine E_x ?_
        refine B_x ?_
        exact J1 _ _ h
    · unfold f24_j1 at h
      refine E_n ?_
      refine wp_seq ?_
      refine L_region ?_
      refine L_mv ?_
      refine L_as ?_
      refine L_as ?_
      refine L_nil ?_
      refine E_n ?_
      refine C_ret ?_
      show bodyPost Try.prog Try.f24 (Rt Q) .ret _ _
      exact post_tmps (ts := [4, 5]) (.inr rfl) rfl h

/- factotum/factotumlaw31.RelateOne -/
def f7_j1 (t0_1 t1_1 t5_1 t7 : Value) : M :=
  iaa 2 1 t5_1 (.int .i64 0) fun t33 =>
  ld t33 fun t34 =>
  iaa 2 1 t5_1 (.int .i64 1) fun t35 =>
  ld t35 fun t36 =>
  cl (f18 t0_1 t7 t34 t36) fun t37 =>
  ex 0 t37 fun t38 =>
  ex 1 t37 fun t39 =>
  iaa 2 1 t5_1 (.int .i64 0) fun t43 =>
  ld t43 fun t44 =>
  iaa 2 1 t5_1 (.int .i64 1) fun t45 =>
  ld t45 fun t46 =>
  cl (f21 t0_1 t7 t44 t46) fun t47 =>
  ex 0 t47 fun t48 =>
  ex 1 t47 fun t49 =>
  cl (f22 t0_1 t1_1) fun t53 =>
  ex 0 t53 fun t54 =>
  ex 1 t53 fun t55 =>
  cl (f23 t0_1 t1_1) fun t59 =>
  ex 0 t59 fun t60 =>
  ex 1 t59 fun t61 =>
  cl (f20 t0_1 t7) fun t65 =>
  ex 0 t65 fun t66 =>
  ex 1 t65 fun t67 =>
  cl (f24 t0_1 t7) fun t71 =>
  ex 0 t71 fun t72 =>
  ex 1 t71 fun t73 =>
  eqi .i64 t39 t49 fun t76 =>
  gd t76 true (idv t38) fun t78 =>
  gd t76 true (idv t48) fun t79 =>
  gd t76 true (cl (f13 t78 t79)) fun t80 =>
  pk t76 t80 (.bool false) fun t81 =>
  gd t81 true (idv t55) fun t83 =>
  gd t81 true (idv t61) fun t84 =>
  gd t81 true (eqi .i64 t83 t84) fun t85 =>
  pk t81 t85 (.bool false) fun t86 =>
  gd t86 true (idv t54) fun t88 =>
  gd t86 true (idv t60) fun t89 =>
  gd t86 true (cl (f13 t88 t89)) fun t90 =>
  pk t86 t90 (.bool false) fun t91 =>
  gd t91 true (idv t67) fun t93 =>
  gd t91 true (idv t73) fun t94 =>
  gd t91 true (eqi .i64 t93 t94) fun t95 =>
  pk t91 t95 (.bool false) fun t96 =>
  gd t96 true (idv t66) fun t98 =>
  gd t96 true (idv t72) fun t99 =>
  gd t96 true (cl (f13 t98 t99)) fun t100 =>
  pk t96 t100 (.bool false) fun t101 =>
  rt t101
def f7 (t0 t1 t2 : Value) : M :=
  bx 44 t2 fun t5 =>
  cl (f8) fun t20 =>
  nt t20 fun t21 =>
  cnd t21 (
    rt (.bool false)
    ) (
    cl (f9 t0) fun t23 =>
    lnl t1 fun t25 =>
    gt .i64 t25 (.int .i64 0) fun t26 =>
    jn (fun (j1 : Value → Value → Value → Value → M) =>
      cnd t26 (
        ia 1 t1 (.int .i64 0) fun t28 =>
        ld t28 fun t29 =>
        j1 t23 t1 t5 t29
        ) (
        j1 t23 t1 t5 (.int .i64 0)
        )
      ) (f7_j1)
    )
theorem s7 (t0 t1 t2 : Value) (w : World) (Q : Value → World → Prop) (h : f7 t0 t1 t2 w Q) : Calls Try.prog 7 #[t0, t1, t2] w (Rt Q) := by
  refine calls_of (l := [t0, t1, t2]) Try.func7 rfl Try.ntmps7 (Nat.le_of_ble_eq_true rfl) ?_
  unfold f7 at h
  refine wp_seq ?_
  refine L_region ?_
  refine L_u (P_bx h) ?_
  intro v w h
  refine L_as ?_
  refine L_nil ?_
  refine E_n ?_
  refine wp_seq ?_
  refine wp_seq ?_
  refine L_region ?_
  refine L_u (N_cl Try.func8 rfl nn8 (fun w Q h => s8 w Q h) h) ?_
  intro v w h
  refine L_u (P_nt h) ?_
  intro v w h
  refine L_nil ?_
  refine E_n ?_
  refine C_cnd h (fun h => ?_) (fun h => ?_)
  · refine wp_seq ?_
    refine L_region ?_
    refine L_as ?_
    refine L_nil ?_
    refine E_n ?_
    refine C_ret ?_
    show bodyPost Try.prog Try.f7 (Rt Q) .ret _ _
    exact post_tmps (ts := [6]) (.inr rfl) rfl h
  · refine C_skip ?_
    refine E_n ?_
    refine wp_seq ?_
    refine L_region ?_
    refine L_mv ?_
    refine L_u (N_cl Try.func9 rfl nn9 (fun w Q h => s9 _ w Q h) h) ?_
    intro v w h
    refine L_as ?_
    refine L_nil ?_
    refine E_n ?_
    refine wp_seq ?_
    refine L_region ?_
    refine L_as ?_
    refine L_nil ?_
    refine E_n ?_
    refine wp_seq ?_
    refine wp_seq ?_
    refine L_region ?_
    refine L_mv ?_
    refine L_u (P_lnl is43 h) ?_
    intro v w h
    refine L_u (P_gt h) ?_
    intro v w h
    refine L_nil ?_
    refine E_n ?_
    refine C_join (fun (k : Value → Value → Value → Value → M) (ρ : Nat → Value) => k (ρ 0) (ρ 1) (ρ 5) (ρ 7)) h (fun j1 J1 h => ?_) (fun ρ w h => ?_)
    · refine C_cnd h (fun h => ?_) (fun h => ?_)
      · refine L_region ?_
        refine L_mv ?_
        refine L_u (P_ia se43 h) ?_
        intro v w h
        refine L_u (P_ld sc3 h) ?_
        intro v w h
        refine L_as ?_
        refine L_nil ?_
        exact J1 _ _ h
      · refine C_skip ?_
        exact J1 _ _ h
    · unfold f7_j1 at h
      refine E_n ?_
      refine wp_seq ?_
      refine L_region ?_
      refine L_mv ?_
      refine L_mv ?_
      refine L_u (P_iaa ae44 h) ?_
      intro v w h
      refine L_u (P_ld sc32 h) ?_
      intro v w h
      refine L_u (P_iaa ae44 h) ?_
      intro v w h
      refine L_u (P_ld sc32 h) ?_
      intro v w h
      refine L_u (N_cl Try.func18 rfl nn18 (fun w Q h => s18 _ _ _ _ w Q h) h) ?_
      intro v w h
      refine L_mv ?_
      refine L_u (P_ex h) ?_
      intro v w h
      refine L_u (P_ex h) ?_
      intro v w h
      refine L_as ?_
      refine L_as ?_
      refine L_nil ?_
      refine E_n ?_
      refine wp_seq ?_
      refine L_region ?_
      refine L_mv ?_
      refine L_mv ?_
      refine L_u (P_iaa ae44 h) ?_
      intro v w h
      refine L_u (P_ld sc32 h) ?_
      intro v w h
      refine L_u (P_iaa ae44 h) ?_
      intro v w h
      refine L_u (P_ld sc32 h) ?_
      intro v w h
      refine L_u (N_cl Try.func21 rfl nn21 (fun w Q h => s21 _ _ _ _ w Q h) h) ?_
      intro v w h
      refine L_mv ?_
      refine L_u (P_ex h) ?_
      intro v w h
      refine L_u (P_ex h) ?_
      intro v w h
      refine L_as ?_
      refine L_as ?_
      refine L_nil ?_
      refine E_n ?_
      refine wp_seq ?_
      refine L_region ?_
      refine L_mv ?_
      refine L_mv ?_
      refine L_u (N_cl Try.func22 rfl nn22 (fun w Q h => s22 _ _ w Q h) h) ?_
      intro v w h
      refine L_mv ?_
      refine L_u (P_ex h) ?_
      intro v w h
      refine L_u (P_ex h) ?_
      intro v w h
      refine L_as ?_
      refine L_as ?_
      refine L_nil ?_
      refine E_n ?_
      refine wp_seq ?_
      refine L_region ?_
      refine L_mv ?_
      refine L_mv ?_
      refine L_u (N_cl Try.func23 rfl nn23 (fun w Q h => s23 _ _ w Q h) h) ?_
      intro v w h
      refine L_mv ?_
      refine L_u (P_ex h) ?_
      intro v w h
      refine L_u (P_ex h) ?_
      intro v w h
      refine L_as ?_
      refine L_as ?_
      refine L_nil ?_
      refine E_n ?_
      refine wp_seq ?_
      refine L_region ?_
      refine L_mv ?_
      refine L_mv ?_
      refine L_u (N_cl Try.func20 rfl nn20 (fun w Q h => s20 _ _ w Q h) h) ?_
      intro v w h
      refine L_mv ?_
      refine L_u (P_ex h) ?_
      intro v w h
      refine L_u (P_ex h) ?_
      intro v w h
      refine L_as ?_
      refine L_as ?_
      refine L_nil ?_
      refine E_n ?_
      refine wp_seq ?_
      refine L_region ?_
      refine L_mv ?_
      refine L_mv ?_
      refine L_u (N_cl Try.func24 rfl nn24 (fun w Q h => s24 _ _ w Q h) h) ?_
      intro v w h
      refine L_mv ?_
      refine L_u (P_ex h) ?_
      intro v w h
      refine L_u (P_ex h) ?_
      intro v w h
      refine L_as ?_
      refine L_as ?_
      refine L_nil ?_
      refine E_n ?_
      refine wp_seq ?_
      refine L_region ?_
      refine L_mv ?_
      refine L_mv ?_
      refine L_u (P_eqi h) ?_
      intro v w h
      refine L_mv ?_
      refine L_g (t := 77) h rfl rfl (fun c h => P_mv h c) ?_
      intro v w h
      refine L_g (t := 77) h rfl rfl (fun c h => P_mv h c) ?_
      intro v w h
      refine L_g (t := 77) h rfl rfl (fun c h => N_cl Try.func13 rfl nn13 (fun w Q h => s13 _ _ w Q h) h c) ?_
      intro v w h
      refine L_u (P_pk h) ?_
      intro v w h
      refine L_mv ?_
      refine L_g (t := 82) h rfl rfl (fun c h => P_mv h c) ?_
      intro v w h
      refine L_g (t := 82) h rfl rfl (fun c h => P_mv h c) ?_
      intro v w h
      refine L_g (t := 82) h rfl rfl (fun c h => P_eqi h c) ?_
      intro v w h
      refine L_u (P_pk h) ?_
      intro v w h
      refine L_mv ?_
      refine L_g (t := 87) h rfl rfl (fun c h => P_mv h c) ?_
      intro v w h
      refine L_g (t := 87) h rfl rfl (fun c h => P_mv h c) ?_
      intro v w h
      refine L_g (t := 87) h rfl rfl (fun c h => N_cl Try.func13 rfl nn13 (fun w Q h => s13 _ _ w Q h) h c) ?_
      intro v w h
      refine L_u (P_pk h) ?_
      intro v w h
      refine L_mv ?_
      refine L_g (t := 92) h rfl rfl (fun c h => P_mv h c) ?_
      intro v w h
      refine L_g (t := 92) h rfl rfl (fun c h => P_mv h c) ?_
      intro v w h
      refine L_g (t := 92) h rfl rfl (fun c h => P_eqi h c) ?_
      intro v w h
      refine L_u (P_pk h) ?_
      intro v w h
      refine L_mv ?_
      refine L_g (t := 97) h rfl rfl (fun c h => P_mv h c) ?_
      intro v w h
      refine L_g (t := 97) h rfl rfl (fun c h => P_mv h c) ?_
      intro v w h
      refine L_g (t := 97) h rfl rfl (fun c h => N_cl Try.func13 rfl nn13 (fun w Q h => s13 _ _ w Q h) h c) ?_
      intro v w h
      refine L_u (P_pk h) ?_
      intro v w h
      refine L_as ?_
      refine L_nil ?_
      refine E_n ?_
      refine C_ret ?_
      show bodyPost Try.prog Try.f7 (Rt Q) .ret _ _
      exact post_tmps (ts := [6]) (.inr rfl) rfl h
end Go.Proofs.Ytlmiimojgledpaa

namespace Go.Proofs.Ytlmiimojgledpaa
namespace Sh
open RowKit
/-- a string's bytes as whole numbers -/
def byL (s : ByteArray) : List Int := s.data.toList.map (fun b => (b.toNat : Int))
theorem byL_len (s : ByteArray) : (byL s).length = s.size := by simp only [byL, List.length_map, Array.length_toList]; rfl
theorem byL_get (s : ByteArray) (i : Nat) (h : i < (byL s).length) : ∃ c, s[i]? = some c ∧ (byL s)[i] = (c.toNat : Int) := by
  have h' : i < s.size := by rw [byL_len] at h; exact h
  refine ⟨s[i], ?_, ?_⟩
  · rw [getElem?_pos s i h']
  · simp only [byL, List.getElem_map, Array.getElem_toList]; rfl
theorem byL_nn {s : ByteArray} {x : Int} (h : x ∈ byL s) : 0 ≤ x ∧ x ≤ 255 := by
  simp only [byL, List.mem_map] at h
  obtain ⟨b, _, rfl⟩ := h
  have := b.toNat_lt
  omega
section
variable {P : Program} {w : World} {Q : Value → World → Prop} {K : Value → M} {B : Nat}
theorem Below_bytes {A : World} (e : TypeId) (s : ByteArray) (h : Below B A w) (hB : B ≤ w.heap.size) : Below B A (Go.Lib.bytesWorld w e s) :=
  h.trans ⟨rfl, rfl, rfl, by rw [Go.Lib.bytesWorld_size]; omega, fun k hk => Go.Lib.bytesWorld_at_old w e s k (by omega)⟩
theorem cvs {src dst e : TypeId} {z : Value} {n b : Nat} {s : ByteArray} (hs : isStr P src = true) (h : slT P dst e z n b) (he : P.underlying e = some (.int .u8))
    (k : ∀ v w', rdI .u8 w' v (byL s) → Below w.heap.size w w' → K v w' Q) : sm P (convert src dst (.string s)) K w Q := by
  obtain ⟨i, h1, _⟩ := slT_info h
  unfold isStr at hs
  cases hu : P.underlying src with
  | none => simp [hu] at hs
  | some u =>
    refine ⟨_, _, Go.Lib.run_convert_string_bytes w src dst e s hu h1 he, k _ _ ?_ (Below_bytes e s (Below.refl _ w) (Nat.le_refl _))⟩
    refine ⟨_, _, by rw [byL_len], ?_⟩
    intro i hi
    have hi' : i < s.size := by rw [byL_len] at hi; exact hi
    refine ⟨_, rfl, ?_⟩
    rw [add_lit, Nat.zero_add, Go.Lib.bytesWorld_cell w e s i hi']
    have hd : i < s.data.toList.length := by simpa using hi'
    simp [byL, List.getD, hi']
/-- a block that is there stays -/
theorem stay {w w' : World} {p : Nat} {o : Obj} (hb : Below w.heap.size w w') (h : w.heap[p]? = some o) : w'.heap[p]? = some o := by
  rcases Nat.lt_or_ge p w.heap.size with hp | hp
  · rw [hb.block p hp]; exact h
  · simp [Array.getElem?_eq_none hp] at h
theorem blk_lt {w : World} {p : Nat} {o : Obj} (h : w.heap[p]? = some o) : p < w.heap.size := by
  rcases Nat.lt_or_ge p w.heap.size with hp | hp
  · exact hp
  · simp [Array.getElem?_eq_none hp] at h
theorem bt {w0 w w' : World} (b : Below w0.heap.size w0 w) (hb : Below w.heap.size w w') : Below w0.heap.size w0 w' := b.trans (hb.mono b.size)
theorem bt' {B : Nat} {w0 w w' : World} (b : Below B w0 w) (hB : B ≤ w.heap.size) (hb : Below w.heap.size w w') : Below B w0 w' := b.trans (hb.mono hB)
theorem b_psh (w : World) (o : Obj) : Below w.heap.size w (psh w o) := Below_psh (Below.refl _ w) (Nat.le_refl _)
end
end Sh
end Go.Proofs.Ytlmiimojgledpaa

namespace Go.Proofs.Ytlmiimojgledpaa
namespace Sh
open RowKit
section
variable {P : Program} {w : World} {d : Nat} {xs ys : Array Value} {f : Field} {fs : List Field} {r : Bool}
theorem fE_nil : (Op.eqFields d xs ys []).run P w = .ok true w := by simp [Op.eqFields]
theorem fE_cons {a b : Value} {s : Bool} (hn : (f.name == "_") = false) (hk : P.plainKey f.type = true) (ha : xs[f.offset]? = some a) (hb : ys[f.offset]? = some b) (he : (Op.equalIn d f.type a b).run P w = .ok r w)
    (hr : (Op.eqFields d xs ys fs).run P w = .ok s w) : (Op.eqFields d xs ys (f :: fs)).run P w = .ok (r && s) w := by
  have hn' : f.name ≠ "_" := by simpa using hn
  rw [Op.eqFields]
  simp only [if_pos hn', Sem.run_bind, run_part_plain w hk ha, run_part_plain w hk hb, he, Result.andThen_ok]
  cases r
  · simp
  · simpa using hr
theorem run_eq_agg {t : TypeId} {x y : Operand} {gs : Array Field} (hu : P.underlying t = some (.struct gs)) (hp : P.stoodInHeld t = false) (hg : P.eqGuardType P.depth t = false)
    (h : (Op.eqFields 9999 xs ys gs.toList).run P w = .ok r w) : ((do eqGuard .eql t x y (.agg xs) (.agg ys); binOp .eql t (.agg xs) (.agg ys) : Sem Value)).run P w = .ok (.bool r) w := by
  have hf : P.fieldsOf t = gs := by simp [Program.fieldsOf, hu]
  have h2 : (Op.equalIn 10000 t (.agg xs) (.agg ys)).run P w = .ok r w := by
    rw [run_equalIn_struct (P := P) w 9999 t xs ys (by rw [hf]; exact hu) hp, hf]
    exact h
  have h3 : (Op.equal t (.agg xs) (.agg ys)).run P w = .ok r w := h2
  simp [eqGuard, hg, binOp, h3]
end
end Sh
end Go.Proofs.Ytlmiimojgledpaa

namespace Go.Proofs.Ytlmiimojgledpaa
namespace Sh
open RowKit
theorem son_size (l : List Int) : (strOfNums l).size = l.length := strOfNums_size l
theorem son_byL (s : ByteArray) : strOfNums (byL s) = s := by
  apply ByteArray.ext
  apply Array.toList_inj.1
  rw [strOfNums_data, byL, List.map_map]
  conv => rhs; rw [← List.map_id s.data.toList]
  apply List.map_congr_left
  intro x _
  simp
theorem byL_son {l : List Int} (h : ∀ x ∈ l, 0 ≤ x ∧ x ≤ 255) : byL (strOfNums l) = l := by
  unfold byL
  rw [strOfNums_data, List.map_map]
  conv => rhs; rw [← List.map_id l]
  apply List.map_congr_left
  intro x hx
  have := h x hx
  simp only [Function.comp_apply, id_eq, UInt8.toNat_ofNat']
  omega
theorem byL_inj {s t : ByteArray} (h : byL s = byL t) : s = t := by rw [← son_byL s, ← son_byL t, h]
theorem byL_app (s t : ByteArray) : byL (s ++ t) = byL s ++ byL t := by
  unfold byL
  rw [ByteArray.data_append, Array.toList_append, List.map_append]
theorem byL_take (s : ByteArray) (l h : Nat) : byL (s.extract l h) = ((byL s).take h).drop l := by
  unfold byL
  rw [ByteArray.data_extract, Array.toList_extract, List.drop_take]
  simp only [List.extract, List.map_take, List.map_drop]
theorem byL_nil : byL ⟨#[]⟩ = [] := rfl
section
variable {P : Program} {w : World} {Q : Value → World → Prop} {K : Value → M} {B : Nat}
theorem run_cvb {src dst e : TypeId} {z : Value} {n b : Nat} {l : List Int} {v : Value} (hs : slT P src e z n b) (he : P.underlying e = some (.int .u8)) (hd : isStr P dst = true) (hr : rdI .u8 w v l) :
    (convert src dst v).run P w = .ok (.string (strOfNums l)) w := by
  obtain ⟨i, h1, _⟩ := slT_info hs
  have hd' : P.underlying dst = some .string := by
    unfold isStr at hd
    cases hu : P.underlying dst with
    | none => simp [hu] at hd
    | some u => cases u <;> simp_all
  obtain ⟨p, c, rfl, h⟩ := hr
  rw [run_convert_bytes_string w src dst e p l.length c h1 he hd']
  cases p with
  | none =>
    have : l = [] := by
      cases l with
      | nil => rfl
      | cons x l => obtain ⟨a, ha, _⟩ := h 0 (by simp); cases ha
    subst this
    simp [Conv.bytesToString]
    rfl
  | some a =>
    have hl : (loadCells a l.length).run P w = .ok (l.map (Value.int .u8)).toArray w := by
      have := run_loadCells_list (P := P) w a (l.map (Value.int .u8)) (fun j v hj => by
        have hjl : j < l.length := by
          rcases Nat.lt_or_ge j l.length with h | h
          · exact h
          · simp [List.getElem?_eq_none (show (l.map (Value.int .u8)).length ≤ j by simpa using h)] at hj
        obtain ⟨a', e1, e2⟩ := h j hjl
        cases e1
        rw [e2]
        simp [List.getElem?_eq_getElem hjl] at hj
        rw [hj])
      simpa using this
    rw [run_bytesToString w a l.length c l hl, foldl_push_bytes]
    simp [strOfNums, ByteArray.empty, ByteArray.emptyWithCapacity]
    rfl
theorem cvb {src dst e : TypeId} {z : Value} {n b : Nat} {l : List Int} {v : Value} (hs : slT P src e z n b) (he : P.underlying e = some (.int .u8)) (hd : isStr P dst = true) (hr : rdI .u8 w v l)
    (k : K (.string (strOfNums l)) w Q) : smr P (convert src dst v) K w Q := ⟨_, run_cvb hs he hd hr, k⟩
/-- a text's bytes behind a row of the call's own -/
theorem ap_str {t u ty e : TypeId} {b : Nat} (h : slT P t e (.int .u8 0) 1 1) (hu : isStr P u = true) {v : Value} {l : List Int} (hown : ownI B e .u8 w v l) (s : ByteArray)
    (hbytes : l.length + s.size ≤ 140737488355328) (hB : B ≤ w.heap.size)
    (k : ∀ v' w', ownI B e .u8 w' v' (l ++ byL s) → w.grownBy w' v.ownBlock → K v' w' Q) : sm P (Builtin.append_ #[t, u] ty #[v, .string s]) K w Q := by
  obtain ⟨i, g1, g2, g3, g4, g5⟩ := slT_info h
  have hu' : P.underlying u = some .string := by
    unfold isStr at hu
    cases hu2 : P.underlying u with
    | none => simp [hu2] at hu
    | some u => cases u <;> simp_all
  obtain ⟨v', w', hr, ho, hg, _⟩ := Go.Lib.run_append_own_string (P := P) w B t u ty e i g1 hu' g2 g3 g4 g5 v l.length (l.map (Value.int .u8)) hown s (by unfold maxLen; omega) hbytes hB
  refine ⟨v', w', hr, k v' w' ?_ hg⟩
  unfold ownI
  have e1 : Go.Lib.strCells s = (byL s).map (Value.int .u8) := by
    unfold Go.Lib.strCells byL; rw [List.map_map]; rfl
  rw [List.length_append, byL_len, List.map_append, ← e1]
  exact ho
/-- a row of whole numbers, as an argument or the call's own -/
def rdP (k : IntKind) (w : World) (v : Value) (l : List Int) : Prop :=
  (v = .slice none 0 0 ∧ l = []) ∨ ∃ a c, v = .slice (some a) l.length c ∧ ∀ i (h : i < l.length), w.cell? (a.add i) = some (.int k l[i])
theorem rdP_rd {k : IntKind} {w : World} {v : Value} {l : List Int} (h : rdP k w v l) : rdI k w v l := by
  rcases h with ⟨rfl, rfl⟩ | ⟨a, c, rfl, h⟩
  · exact ⟨none, 0, rfl, fun i h => by simp at h⟩
  · exact ⟨some a, c, rfl, fun i hi => ⟨a, rfl, h i hi⟩⟩
theorem rdP_below {k : IntKind} {w w' : World} {v : Value} {l : List Int} (hb : Below w.heap.size w w') (h : rdP k w v l) : rdP k w' v l := by
  rcases h with h | ⟨a, c, rfl, h⟩
  · exact .inl h
  · exact .inr ⟨a, c, rfl, fun i hi => cell_below hb (h i hi)⟩
theorem ownI_rdP {B : Nat} {e : TypeId} {k : IntKind} {w : World} {v : Value} {l : List Int} (h : ownI B e k w v l) : rdP k w v l := by
  obtain ⟨h1, h2⟩ := h
  rcases h2 with ⟨rfl, h0⟩ | ⟨g, cap, cur, rfl, hg⟩
  · exact .inl ⟨rfl, List.length_eq_zero_iff.1 h0⟩
  · refine .inr ⟨_, _, rfl, fun i hi => ?_⟩
    rw [add_lit, Nat.zero_add]
    exact ownI_cell ⟨h1, .inr ⟨g, cap, cur, rfl, hg⟩⟩ i hi
/-- numbers behind a row of the call's own -/
theorem ap_rd {t ty e : TypeId} {k : IntKind} {b : Nat} (h : slT P t e (.int k 0) 1 b) {v u : Value} {l m : List Int} (hown : ownI B e k w v l) (hr : rdP k w u m)
    (hbytes : (l.length + m.length) * b ≤ 140737488355328) (h63 : l.length + m.length ≤ 140737488355328) (hB : B ≤ w.heap.size)
    (kk : ∀ v' w', ownI B e k w' v' (l ++ m) → w.grownBy w' v.ownBlock → K v' w' Q) : sm P (Builtin.append_ #[t, t] ty #[v, u]) K w Q := by
  obtain ⟨i, g1, g2, g3, g4, g5⟩ := slT_info h
  rcases hr with ⟨rfl, rfl⟩ | ⟨a, c, rfl, hr⟩
  · refine ⟨v, w, run_append_owned_none w B t ty e i 1 g1 g2 v l.length (l.map (Value.int k)) hown, kk v w (by rw [List.append_nil]; exact hown) (World.grownBy.refl w _)⟩
  · obtain ⟨v', w', hrun, ho, hg, _⟩ := run_append_own (P := P) w B t ty e i (.int k 0) 1 b g1 g2 g3 g4 g5 rfl (by decide) v l.length (l.map (Value.int k)) hown a m.length c (m.map (Value.int k)) (by simp) (by
        intro j u hj
        have hjl : j < m.length := by
          rcases Nat.lt_or_ge j m.length with h | h
          · exact h
          · simp [List.getElem?_eq_none (show (m.map (Value.int k)).length ≤ j by simpa using h)] at hj
        rw [hr j hjl]
        simp [List.getElem?_eq_getElem hjl] at hj
        rw [hj]) (by intro u hu; simp only [List.mem_map] at hu; obtain ⟨x, _, rfl⟩ := hu; rfl) (by unfold maxLen; omega) hbytes hB
    refine ⟨v', w', hrun, kk v' w' ?_ hg⟩
    unfold ownI
    rw [List.length_append, List.map_append]
    exact ho
theorem ownI_weak {B B' : Nat} {e : TypeId} {k : IntKind} {w : World} {v : Value} {l : List Int} (h : ownI B e k w v l) (hB : B' ≤ B) : ownI B' e k w v l := by
  obtain ⟨o1, o2⟩ := h
  refine ⟨o1, o2.imp id ?_⟩
  rintro ⟨g, cap, cur, q1, q2, q3⟩
  exact ⟨g, cap, cur, q1, by omega, q3⟩
/-- a new row of zeros -/
theorem mkI {t e : TypeId} {k j j' : IntKind} {b n : Nat} (h : slT P t e (.int k 0) 1 b) (hn : b * n ≤ 281474976710656) (hn2 : n ≤ 281474976710656) (hB : B ≤ w.heap.size)
    (kk : ∀ v' w', ownI B e k w' v' (List.replicate n 0) → Below w.heap.size w w' → K v' w' Q) : sm P (Instr.makeSlice t (.int j (n : Int)) (.int j' (n : Int))) K w Q := by
  obtain ⟨i, g1, g2, g3, g4, g5⟩ := slT_info h
  obtain ⟨w', hr, ho, hg⟩ := run_make_full (P := P) w w.heap.size t e i (.int k 0) 1 g1 g2 g3 g4 j j' n (by rw [g5]; exact hn) (by unfold maxLen; omega) (Nat.le_refl _)
  refine ⟨_, w', hr, kk _ _ ?_ ?_⟩
  · have e : (madeCells (Value.int k 0).cells (n * 1)).toList = (List.replicate n (0 : Int)).map (Value.int k) := by
      apply List.ext_getElem
      · simp [madeCells]
      · intro i h1 h2
        simp [madeCells, Value.cells, Nat.mod_one]
    rw [e] at ho
    refine ownI_weak (B := w.heap.size) ?_ hB
    unfold ownI
    rw [List.length_replicate]
    exact ho
  · exact (Below.refl _ _).grown hg (Nat.le_refl _) (fun k hk => by cases hk)
end
end Sh
end Go.Proofs.Ytlmiimojgledpaa
