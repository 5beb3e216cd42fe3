/- Functions as predicate transformers, and that the machine does what they say, by program. -/
import Derived.Test.YtlmiimojgledpaaTy
set_option linter.unusedVariables false
set_option maxRecDepth 20000
set_option maxHeartbeats 4000000
namespace Go.Proofs.Ytlmiimojgledpaa
open Sh
attribute [local irreducible] wpL anyG act jn lo gdB amb kp smr nc fa ld ldn st stn ad su mu qu re lt le gt ge eqi nei bws shl shr cat eqs nes lts gts eqb neb nt pk cv al bx ex fld fldn lnl lns ia iaa ixs sls sll sla mif mnm mxm mm asrt sm smu cl cc cf ci cnd gd gdu
/- slices.IndexFunc[[]factotum/api.Row,factotum/api.Row] -/
def f54_b2 (j1 : M) (self2 : Value → Value → Value → Value → M) (t0_1 t1_1 t7_1 t8 : Value) : M :=
  lt .i64 t8 t7_1 fun t9 =>
  cnd t9 (
    ia 1 t0_1 t8 fun t14 =>
    ld t14 fun t15 =>
    cf Try.prog t1_1 #[t15] fun t16 =>
    cnd t16 (
      rt t8
      ) (
      ad .i64 t8 (.int .i64 1) fun t18 =>
      self2 t0_1 t1_1 t7_1 t18
      )
    ) (
    j1
    )
def f54_j1 : M :=
  rt (.int .i64 (-1))
def f54 (t0 t1 : Value) : M :=
  lnl t0 fun t7 =>
  jn (fun (j1 : M) =>
    lo (fun _ _ _ _ => bot) (f54_b2 j1) (fun l => l t0 t1 t7 (.int .i64 0))
    ) (f54_j1)
theorem s54 (t0 t1 : Value) (w : World) (Q : Value → World → Prop) (h : f54 t0 t1 w Q) : Calls Try.prog 54 #[t0, t1] w (Rt Q) := by
  refine calls_of (l := [t0, t1]) Try.func54 rfl Try.ntmps54 (Nat.le_of_ble_eq_true rfl) ?_
  unfold f54 at h
  refine wp_seq ?_
  refine L_region ?_
  refine L_as ?_
  refine L_nil ?_
  refine E_n ?_
  refine wp_seq ?_
  refine wp_seq ?_
  refine L_region ?_
  refine L_mv ?_
  refine L_u (P_lnl is22 h) ?_
  intro v w h
  refine L_mv ?_
  refine L_nil ?_
  refine E_n ?_
  refine C_join (fun (k : M) (ρ : Nat → Value) => k) h (fun j1 J1 h => ?_) (fun ρ w h => ?_)
  · refine C_blk ?_
    refine C_lo (fun (l : Value → Value → Value → Value → M) (ρ : Nat → Value) => l (ρ 0) (ρ 1) (ρ 7) (ρ 8)) h (fun ρ w h => h) (fun nx self2 L2 ρ w h => ?_)
    unfold f54_b2 at h
    refine wp_seq ?_
    refine L_region ?_
    refine L_u (P_lt h) ?_
    intro v w h
    refine L_nil ?_
    refine E_n ?_
    refine wp_seq ?_
    refine C_cnd h (fun h => ?_) (fun h => ?_)
    · refine C_skip ?_
      refine E_n ?_
      refine wp_seq ?_
      refine C_blk ?_
      refine wp_seq ?_
      refine L_region ?_
      refine L_mv ?_
      refine L_as ?_
      refine L_nil ?_
      refine E_n ?_
      refine wp_seq ?_
      refine L_region ?_
      refine L_mv ?_
      refine L_mv ?_
      refine L_mv ?_
      refine L_u (P_ia se22 h) ?_
      intro v w h
      refine L_u (P_ld sc33 h) ?_
      intro v w h
      refine L_u (N_cf h) ?_
      intro v w h
      refine L_nil ?_
      refine E_n ?_
      refine C_cnd h (fun h => ?_) (fun h => ?_)
      · refine wp_seq ?_
        refine L_region ?_
        refine L_mv ?_
        refine L_as ?_
        refine L_nil ?_
        refine E_n ?_
        refine C_ret ?_
        show bodyPost Try.prog Try.f54 (Rt Q) .ret _ _
        exact post_tmps (ts := [4]) (.inr rfl) rfl h
      · refine C_skip ?_
        refine B_n ?_
        refine E_n ?_
        refine L_region ?_
        refine L_u (P_ad h) ?_
        intro v w h
        refine L_mv ?_
        refine L_nil ?_
        refine E_n ?_
        exact L2 _ _ h
    · refine C_exit ?_
      refine E_x ?_
      refine E_x ?_
      refine B_x ?_
      exact J1 _ _ h
  · unfold f54_j1 at h
    refine E_n ?_
    refine wp_seq ?_
    refine L_region ?_
    refine L_as ?_
    refine L_nil ?_
    refine E_n ?_
    refine C_ret ?_
    show bodyPost Try.prog Try.f54 (Rt Q) .ret _ _
    exact post_tmps (ts := [4]) (.inr rfl) rfl h

/- slices.ContainsFunc[[]factotum/api.Row,factotum/api.Row] -/
def f43 (t0 t1 : Value) : M :=
  cl (f54 t0 t1) fun t7 =>
  ge .i64 t7 (.int .i64 0) fun t8 =>
  rt t8
theorem s43 (t0 t1 : Value) (w : World) (Q : Value → World → Prop) (h : f43 t0 t1 w Q) : Calls Try.prog 43 #[t0, t1] w (Rt Q) := by
  refine calls_of (l := [t0, t1]) Try.func43 rfl Try.ntmps43 (Nat.le_of_ble_eq_true rfl) ?_
  unfold f43 at h
  refine wp_seq ?_
  refine L_region ?_
  refine L_as ?_
  refine L_nil ?_
  refine E_n ?_
  refine wp_seq ?_
  refine L_region ?_
  refine L_mv ?_
  refine L_mv ?_
  refine L_u (N_cl Try.func54 rfl nn54 (fun w Q h => s54 _ _ w Q h) h) ?_
  intro v w h
  refine L_u (P_ge h) ?_
  intro v w h
  refine L_as ?_
  refine L_nil ?_
  refine E_n ?_
  refine C_ret ?_
  show bodyPost Try.prog Try.f43 (Rt Q) .ret _ _
  exact post_tmps (ts := [4]) (.inr rfl) rfl h

/- factotum/relate.lacks -/
def f42 (t0 t1 : Value) : M :=
  lt .i64 t1 (.int .i64 0) fun t6 =>
  gd t6 false (idv t1) fun t8 =>
  gd t6 false (idv t0) fun t9 =>
  gd t6 false (lnl t9) fun t10 =>
  gd t6 false (ge .i64 t8 t10) fun t11 =>
  pk t6 (.bool true) t11 fun t12 =>
  rt t12
theorem s42 (t0 t1 : Value) (w : World) (Q : Value → World → Prop) (h : f42 t0 t1 w Q) : Calls Try.prog 42 #[t0, t1] w (Rt Q) := by
  refine calls_of (l := [t0, t1]) Try.func42 rfl Try.ntmps42 (Nat.le_of_ble_eq_true rfl) ?_
  unfold f42 at h
  refine wp_seq ?_
  refine L_region ?_
  refine L_as ?_
  refine L_nil ?_
  refine E_n ?_
  refine wp_seq ?_
  refine L_region ?_
  refine L_mv ?_
  refine L_u (P_lt h) ?_
  intro v w h
  refine L_mv ?_
  refine L_g (t := 7) h rfl rfl (fun c h => P_mv h c) ?_
  intro v w h
  refine L_g (t := 7) h rfl rfl (fun c h => P_mv h c) ?_
  intro v w h
  refine L_g (t := 7) h rfl rfl (fun c h => P_lnl is33 h c) ?_
  intro v w h
  refine L_g (t := 7) h rfl rfl (fun c h => P_ge h c) ?_
  intro v w h
  refine L_u (P_pk h) ?_
  intro v w h
  refine L_as ?_
  refine L_nil ?_
  refine E_n ?_
  refine C_ret ?_
  show bodyPost Try.prog Try.f42 (Rt Q) .ret _ _
  exact post_tmps (ts := [4]) (.inr rfl) rfl h

/- factotum/relate.lack$1 -/
def f44 (t0 t1 : Value) : M :=
  ld t1 fun t5 =>
  cl (f42 t0 t5) fun t6 =>
  rt t6
theorem s44 (t0 t1 : Value) (w : World) (Q : Value → World → Prop) (h : f44 t0 t1 w Q) : Calls Try.prog 44 #[t0, t1] w (Rt Q) := by
  refine calls_of (l := [t0, t1]) Try.func44 rfl Try.ntmps44 (Nat.le_of_ble_eq_true rfl) ?_
  unfold f44 at h
  refine wp_seq ?_
  refine L_region ?_
  refine L_as ?_
  refine L_nil ?_
  refine E_n ?_
  refine wp_seq ?_
  refine L_region ?_
  refine L_mv ?_
  refine L_u (P_ld sc3 h) ?_
  intro v w h
  refine L_u (N_cl Try.func42 rfl nn42 (fun w Q h => s42 _ _ w Q h) h) ?_
  intro v w h
  refine L_as ?_
  refine L_nil ?_
  refine E_n ?_
  refine C_ret ?_
  show bodyPost Try.prog Try.f44 (Rt Q) .ret _ _
  exact post_tmps (ts := [3]) (.inr rfl) rfl h

/- factotum/relate.lack -/
def f26 (t0 t1 : Value) : M :=
  bx 3 t1 fun t3 =>
  idv (.func (.func 44) #[] #[t3]) fun t6 =>
  cl (f43 t0 t6) fun t7 =>
  rt t7
theorem s26 (t0 t1 : Value) (w : World) (Q : Value → World → Prop) (h : f26 t0 t1 w Q) : Calls Try.prog 26 #[t0, t1] w (Rt Q) := by
  refine calls_of (l := [t0, t1]) Try.func26 rfl Try.ntmps26 (Nat.le_of_ble_eq_true rfl) ?_
  unfold f26 at h
  refine wp_seq ?_
  refine L_region ?_
  refine L_u (P_bx h) ?_
  intro v w h
  refine L_as ?_
  refine L_nil ?_
  refine E_n ?_
  refine wp_seq ?_
  refine L_region ?_
  refine L_mv ?_
  refine L_u (N_mf h) ?_
  intro v w h
  refine L_u (N_cl Try.func43 rfl nn43 (fun w Q h => s43 _ _ w Q h) h) ?_
  intro v w h
  refine L_as ?_
  refine L_nil ?_
  refine E_n ?_
  refine C_ret ?_
  show bodyPost Try.prog Try.f26 (Rt Q) .ret _ _
  exact post_tmps (ts := [4]) (.inr rfl) rfl h

/- slices.Grow[factotum/api.Row,factotum/api.Value] -/
def f45_j1 (t0_1 : Value) : M :=
  rt t0_1
def f45 (t0 t1 : Value) : M :=
  lt .i64 t1 (.int .i64 0) fun t6 =>
  cnd t6 (
    mif 9 (.string ⟨#[99, 97, 110, 110, 111, 116, 32, 98, 101, 32, 110, 101, 103, 97, 116, 105, 118, 101]⟩) fun t7 =>
    bot
    ) (
    sm Try.prog (Builtin.cap_ #[33] 3 #[t0]) fun t10 =>
    lnl t0 fun t12 =>
    su .i64 t10 t12 fun t13 =>
    su .i64 t1 t13 fun t14 =>
    gt .i64 t14 (.int .i64 0) fun t16 =>
    jn (fun (j1 : Value → M) =>
      cnd t16 (
        sm Try.prog (Builtin.cap_ #[33] 3 #[t0]) fun t19 =>
        sll 3 t0 none (some t19) fun t20 =>
        sm Try.prog (Builtin.append_ #[33, 3] 33 #[t20, t14]) fun t22 =>
        lnl t0 fun t24 =>
        sll 3 t22 none (some t24) fun t25 =>
        j1 t25
        ) (
        j1 t0
        )
      ) (f45_j1)
    )
theorem s45 (t0 t1 : Value) (w : World) (Q : Value → World → Prop) (h : f45 t0 t1 w Q) : Calls Try.prog 45 #[t0, t1] w (Rt Q) := by
  refine calls_of (l := [t0, t1]) Try.func45 rfl Try.ntmps45 (Nat.le_of_ble_eq_true rfl) ?_
  unfold f45 at h
  refine wp_seq ?_
  refine L_region ?_
  refine L_as ?_
  refine L_nil ?_
  refine E_n ?_
  refine wp_seq ?_
  refine wp_seq ?_
  refine L_region ?_
  refine L_mv ?_
  refine L_u (P_lt h) ?_
  intro v w h
  refine L_nil ?_
  refine E_n ?_
  refine C_cnd h (fun h => ?_) (fun h => ?_)
  · refine L_region ?_
    refine L_u (P_mif co9 h) ?_
    intro v w h
    exact (h : False).elim
  · refine C_skip ?_
    refine E_n ?_
    refine wp_seq ?_
    refine wp_seq ?_
    refine L_region ?_
    refine L_mv ?_
    refine L_mv ?_
    refine L_u (N_bi rfl h) ?_
    intro v w h
    refine L_mv ?_
    refine L_u (P_lnl is33 h) ?_
    intro v w h
    refine L_u (P_su h) ?_
    intro v w h
    refine L_u (P_su h) ?_
    intro v w h
    refine L_as ?_
    refine L_nil ?_
    refine E_n ?_
    refine wp_seq ?_
    refine L_region ?_
    refine L_mv ?_
    refine L_u (P_gt h) ?_
    intro v w h
    refine L_nil ?_
    refine E_n ?_
    refine C_join (fun (k : Value → M) (ρ : Nat → Value) => k (ρ 0)) h (fun j1 J1 h => ?_) (fun ρ w h => ?_)
    · refine C_cnd h (fun h => ?_) (fun h => ?_)
      · refine L_region ?_
        refine L_mv ?_
        refine L_mv ?_
        refine L_u (N_bi rfl h) ?_
        intro v w h
        refine L_u (P_sll se33 h) ?_
        intro v w h
        refine L_mv ?_
        refine L_u (N_bi rfl h) ?_
        intro v w h
        refine L_mv ?_
        refine L_u (P_lnl is33 h) ?_
        intro v w h
        refine L_u (P_sll se33 h) ?_
        intro v w h
        refine L_as ?_
        refine L_nil ?_
        exact J1 _ _ h
      · refine C_skip ?_
        exact J1 _ _ h
    · unfold f45_j1 at h
      refine E_n ?_
      refine wp_seq ?_
      refine L_region ?_
      refine L_mv ?_
      refine L_as ?_
      refine L_nil ?_
      refine E_n ?_
      refine C_ret ?_
      show bodyPost Try.prog Try.f45 (Rt Q) .ret _ _
      exact post_tmps (ts := [4]) (.inr rfl) rfl h

/- slices.Concat[factotum/api.Row,factotum/api.Value] -/
def f27_b2 (j1 : Value → Value → M) (self2 : Value → Value → Value → Value → Value → M) (t0_1 t3 t9 t10_1 t11 : Value) : M :=
  lt .i64 t11 t10_1 fun t12 =>
  cnd t12 (
    ia 1 t9 t11 fun t13 =>
    ld t13 fun t14 =>
    lnl t14 fun t17 =>
    ad .i64 t3 t17 fun t18 =>
    lt .i64 t18 (.int .i64 0) fun t20 =>
    cnd t20 (
      mif 9 (.string ⟨#[108, 101, 110, 32, 111, 117, 116, 32, 111, 102, 32, 114, 97, 110, 103, 101]⟩) fun t21 =>
      bot
      ) (
      ad .i64 t11 (.int .i64 1) fun t22 =>
      self2 t0_1 t18 t9 t10_1 t22
      )
    ) (
    j1 t0_1 t3
    )
def f27_b4 (j3 : Value → M) (self4 : Value → Value → Value → Value → M) (t6 t25 t26_1 t27 : Value) : M :=
  lt .i64 t27 t26_1 fun t28 =>
  cnd t28 (
    ia 1 t25 t27 fun t29 =>
    ld t29 fun t30 =>
    sm Try.prog (Builtin.append_ #[33, 33] 33 #[t6, t30]) fun t33 =>
    ad .i64 t27 (.int .i64 1) fun t34 =>
    self4 t33 t25 t26_1 t34
    ) (
    j3 t6
    )
def f27_j3 (t6_1 : Value) : M :=
  rt t6_1
def f27_j1 (t0_2 t3_1 : Value) : M :=
  cl (f45 (.slice none 0 0) t3_1) fun t24 =>
  lnl t0_2 fun t26 =>
  jn (fun (j3 : Value → M) =>
    lo (fun _ _ _ _ => bot) (f27_b4 j3) (fun l => l t24 t0_2 t26 (.int .i64 0))
    ) (f27_j3)
def f27 (t0 : Value) : M :=
  lnl t0 fun t10 =>
  jn (fun (j1 : Value → Value → M) =>
    lo (fun _ _ _ _ _ => bot) (f27_b2 j1) (fun l => l t0 (.int .i64 0) t0 t10 (.int .i64 0))
    ) (f27_j1)
theorem s27 (t0 : Value) (w : World) (Q : Value → World → Prop) (h : f27 t0 w Q) : Calls Try.prog 27 #[t0] w (Rt Q) := by
  refine calls_of (l := [t0]) Try.func27 rfl Try.ntmps27 (Nat.le_of_ble_eq_true rfl) ?_
  unfold f27 at h
  refine wp_seq ?_
  refine L_region ?_
  refine L_as ?_
  refine L_nil ?_
  refine E_n ?_
  refine wp_seq ?_
  refine L_region ?_
  refine L_as ?_
  refine L_nil ?_
  refine E_n ?_
  refine wp_seq ?_
  refine wp_seq ?_
  refine L_region ?_
  refine L_mv ?_
  refine L_u (P_lnl is22 h) ?_
  intro v w h
  refine L_mv ?_
  refine L_nil ?_
  refine E_n ?_
  refine C_join (fun (k : Value → Value → M) (ρ : Nat → Value) => k (ρ 0) (ρ 3)) h (fun j1 J1 h => ?_) (fun ρ w h => ?_)
  · refine C_blk ?_
    refine C_lo (fun (l : Value → Value → Value → Value → Value → M) (ρ : Nat → Value) => l (ρ 0) (ρ 3) (ρ 9) (ρ 10) (ρ 11)) h (fun ρ w h => h) (fun nx self2 L2 ρ w h => ?_)
    unfold f27_b2 at h
    refine wp_seq ?_
    refine L_region ?_
    refine L_u (P_lt h) ?_
    intro v w h
    refine L_nil ?_
    refine E_n ?_
    refine wp_seq ?_
    refine C_cnd h (fun h => ?_) (fun h => ?_)
    · refine C_skip ?_
      refine E_n ?_
      refine wp_seq ?_
      refine C_blk ?_
      refine wp_seq ?_
      refine L_region ?_
      refine L_u (P_ia se22 h) ?_
      intro v w h
      refine L_u (P_ld sc33 h) ?_
      intro v w h
      refine L_as ?_
      refine L_nil ?_
      refine E_n ?_
      refine wp_seq ?_
      refine L_region ?_
      refine L_mv ?_
      refine L_mv ?_
      refine L_u (P_lnl is33 h) ?_
      intro v w h
      refine L_u (P_ad h) ?_
      intro v w h
      refine L_as ?_
      refine L_nil ?_
      refine E_n ?_
      refine wp_seq ?_
      refine L_region ?_
      refine L_mv ?_
      refine L_u (P_lt h) ?_
      intro v w h
      refine L_nil ?_
      refine E_n ?_
      refine C_cnd h (fun h => ?_) (fun h => ?_)
      · refine L_region ?_
        refine L_u (P_mif co9 h) ?_
        intro v w h
        exact (h : False).elim
      · refine C_skip ?_
        refine B_n ?_
        refine E_n ?_
        refine L_region ?_
        refine L_u (P_ad h) ?_
        intro v w h
        refine L_mv ?_
        refine L_nil ?_
        refine E_n ?_
        exact L2 _ _ h
    · refine C_exit ?_
      refine E_x ?_
      refine E_x ?_
      refine B_x ?_
      exact J1 _ _ h
  · unfold f27_j1 at h
    refine E_n ?_
    refine wp_seq ?_
    refine L_region ?_
    refine L_mv ?_
    refine L_u (N_cl Try.func45 rfl nn45 (fun w Q h => s45 _ _ w Q h) h) ?_
    intro v w h
    refine L_as ?_
    refine L_nil ?_
    refine E_n ?_
    refine wp_seq ?_
    refine wp_seq ?_
    refine L_region ?_
    refine L_mv ?_
    refine L_u (P_lnl is22 h) ?_
    intro v w h
    refine L_mv ?_
    refine L_nil ?_
    refine E_n ?_
    refine C_join (fun (k : Value → M) (ρ : Nat → Value) => k (ρ 6)) h (fun j3 J3 h => ?_) (fun ρ w h => ?_)
    · refine C_blk ?_
      refine C_lo (fun (l : Value → Value → Value → Value → M) (ρ : Nat → Value) => l (ρ 6) (ρ 25) (ρ 26) (ρ 27)) h (fun ρ w h => h) (fun nx self4 L4 ρ w h => ?_)
      unfold f27_b4 at h
      refine wp_seq ?_
      refine L_region ?_
      refine L_u (P_lt h) ?_
      intro v w h
      refine L_nil ?_
      refine E_n ?_
      refine wp_seq ?_
      refine C_cnd h (fun h => ?_) (fun h => ?_)
      · refine C_skip ?_
        refine E_n ?_
        refine wp_seq ?_
        refine C_blk ?_
        refine wp_seq ?_
        refine L_region ?_
        refine L_u (P_ia se22 h) ?_
        intro v w h
        refine L_u (P_ld sc33 h) ?_
        intro v w h
        refine L_as ?_
        refine L_nil ?_
        refine E_n ?_
        refine L_region ?_
        refine L_mv ?_
        refine L_mv ?_
        refine L_u (N_bi rfl h) ?_
        intro v w h
        refine L_as ?_
        refine L_nil ?_
        refine B_n ?_
        refine E_n ?_
        refine L_region ?_
        refine L_u (P_ad h) ?_
        intro v w h
        refine L_mv ?_
        refine L_nil ?_
        refine E_n ?_
        exact L4 _ _ h
      · refine C_exit ?_
        refine E_x ?_
        refine E_x ?_
        refine B_x ?_
        exact J3 _ _ h
    · unfold f27_j3 at h
      refine E_n ?_
      refine wp_seq ?_
      refine L_region ?_
      refine L_mv ?_
      refine L_as ?_
      refine L_nil ?_
      refine E_n ?_
      refine C_ret ?_
      show bodyPost Try.prog Try.f27 (Rt Q) .ret _ _
      exact post_tmps (ts := [2]) (.inr rfl) rfl h

/- factotum/relate.Join -/
def f10_b2 (j1 : Value → Value → Value → M) (self2 : Value → Value → Value → Value → Value → Value → Value → M) (t0_1 t2_1 t3_1 t10 t27 t28_1 t29 : Value) : M :=
  lt .i64 t29 t28_1 fun t30 =>
  cnd t30 (
    ia 1 t27 t29 fun t31 =>
    ld t31 fun t32 =>
    ia 3 t32 t3_1 fun t36 =>
    ldn 3 t36 fun t37 =>
    sm Try.prog (Instr.buildSlice 22 1 #[(0, t32)]) fun t40 =>
    sm Try.prog (Instr.mapEntry 48 t10 t37) fun t41 =>
    ex 0 t41 fun t38 =>
    sm Try.prog (Builtin.append_ #[22, 22] 22 #[t38, t40]) fun t42 =>
    ex 1 t41 fun t43 =>
    smu Try.prog (Instr.entryStore 48 t10 t43 t42) <|
    ad .i64 t29 (.int .i64 1) fun t44 =>
    self2 t0_1 t2_1 t3_1 t10 t27 t28_1 t44
    ) (
    j1 t0_1 t2_1 t10
    )
def f10_b6 (j5 : Value → Value → Value → Value → Value → Value → M) (self6 : Value → Value → Value → Value → Value → Value → Value → Value → Value → Value → M) (t2_4 t10_3 t13_1 t15 t45_1 t46_2 t47_1 t56_1 t57_1 t58 : Value) : M :=
  lt .i64 t58 t57_1 fun t59 =>
  cnd t59 (
    ia 1 t56_1 t58 fun t60 =>
    ld t60 fun t61 =>
    sm Try.prog (Instr.buildSlice 22 2 #[(0, t15), (1, t61)]) fun t65 =>
    cl (f27 t65) fun t66 =>
    sm Try.prog (Instr.buildSlice 22 1 #[(0, t66)]) fun t67 =>
    sm Try.prog (Builtin.append_ #[22, 22] 22 #[t13_1, t67]) fun t68 =>
    ad .i64 t58 (.int .i64 1) fun t69 =>
    self6 t2_4 t10_3 t68 t15 t45_1 t46_2 t47_1 t56_1 t57_1 t69
    ) (
    j5 t2_4 t10_3 t13_1 t45_1 t46_2 t47_1
    )
def f10_j5 (self4 : Value → Value → Value → Value → Value → Value → M) (t2_5 t10_4 t13_2 t45_2 t46_3 t47_2 : Value) : M :=
  ad .i64 t47_2 (.int .i64 1) fun t70 =>
  self4 t2_5 t10_4 t13_2 t45_2 t46_3 t70
def f10_b4 (j3 : Value → M) (self4 : Value → Value → Value → Value → Value → Value → M) (t2_3 t10_2 t13 t45 t46_1 t47 : Value) : M :=
  lt .i64 t47 t46_1 fun t48 =>
  cnd t48 (
    ia 1 t45 t47 fun t49 =>
    ld t49 fun t50 =>
    ia 3 t50 t2_3 fun t54 =>
    ldn 3 t54 fun t55 =>
    smr Try.prog (Instr.lookup 48 t10_2 t55 false) fun t56 =>
    lnl t56 fun t57 =>
    jn (fun (j5 : Value → Value → Value → Value → Value → Value → M) =>
      lo (fun _ _ _ _ _ _ _ _ _ _ => bot) (f10_b6 j5) (fun l => l t2_3 t10_2 t13 t50 t45 t46_1 t47 t56 t57 (.int .i64 0))
      ) (f10_j5 self4)
    ) (
    j3 t13
    )
def f10_j3 (t13_3 : Value) : M :=
  rt (.tuple #[t13_3, (.int .i64 0)])
def f10_j1 (t0_2 t2_2 t10_1 : Value) : M :=
  lnl t0_2 fun t46 =>
  jn (fun (j3 : Value → M) =>
    lo (fun _ _ _ _ _ _ => bot) (f10_b4 j3) (fun l => l t2_2 t10_1 (.slice none 0 0) t0_2 t46 (.int .i64 0))
    ) (f10_j3)
def f10 (t0 t1 t2 t3 : Value) : M :=
  cl (f26 t0 t2) fun t20 =>
  gd t20 false (idv t1) fun t22 =>
  gd t20 false (idv t3) fun t23 =>
  gd t20 false (cl (f26 t22 t23)) fun t24 =>
  pk t20 (.bool true) t24 fun t25 =>
  cnd t25 (
    rt (.tuple #[(.slice none 0 0), (.int .i64 7)])
    ) (
    mm fun t26 =>
    lnl t1 fun t28 =>
    jn (fun (j1 : Value → Value → Value → M) =>
      lo (fun _ _ _ _ _ _ _ => bot) (f10_b2 j1) (fun l => l t0 t2 t3 t26 t1 t28 (.int .i64 0))
      ) (f10_j1)
    )
theorem s10 (t0 t1 t2 t3 : Value) (w : World) (Q : Value → World → Prop) (h : f10 t0 t1 t2 t3 w Q) : Calls Try.prog 10 #[t0, t1, t2, t3] w (Rt Q) := by
  refine calls_of (l := [t0, t1, t2, t3]) Try.func10 rfl Try.ntmps10 (Nat.le_of_ble_eq_true rfl) ?_
  unfold f10 at h
  refine wp_seq ?_
  refine L_region ?_
  refine L_as ?_
  refine L_as ?_
  refine L_nil ?_
  refine E_n ?_
  refine wp_seq ?_
  refine wp_seq ?_
  refine L_region ?_
  refine L_mv ?_
  refine L_mv ?_
  refine L_u (N_cl Try.func26 rfl nn26 (fun w Q h => s26 _ _ w Q h) h) ?_
  intro v w h
  refine L_mv ?_
  refine L_g (t := 21) h rfl rfl (fun c h => P_mv h c) ?_
  intro v w h
  refine L_g (t := 21) h rfl rfl (fun c h => P_mv h c) ?_
  intro v w h
  refine L_g (t := 21) h rfl rfl (fun c h => N_cl Try.func26 rfl nn26 (fun w Q h => s26 _ _ w Q h) h c) ?_
  intro v w h
  refine L_u (P_pk h) ?_
  intro v w h
  refine L_nil ?_
  refine E_n ?_
  refine C_cnd h (fun h => ?_) (fun h => ?_)
  · refine wp_seq ?_
    refine L_region ?_
    refine L_as ?_
    refine L_as ?_
    refine L_nil ?_
    refine E_n ?_
    refine C_ret ?_
    show bodyPost Try.prog Try.f10 (Rt Q) .ret _ _
    exact post_tmps (ts := [8, 9]) (.inr rfl) rfl h
  · refine C_skip ?_
    refine E_n ?_
    refine wp_seq ?_
    refine L_region ?_
    refine L_u (P_mm h) ?_
    intro v w h
    refine L_as ?_
    refine L_nil ?_
    refine E_n ?_
    refine wp_seq ?_
    refine wp_seq ?_
    refine L_region ?_
    refine L_mv ?_
    refine L_u (P_lnl is22 h) ?_
    intro v w h
    refine L_mv ?_
    refine L_nil ?_
    refine E_n ?_
    refine C_join (fun (k : Value → Value → Value → M) (ρ : Nat → Value) => k (ρ 0) (ρ 2) (ρ 10)) h (fun j1 J1 h => ?_) (fun ρ w h => ?_)
    · refine C_blk ?_
      refine C_lo (fun (l : Value → Value → Value → Value → Value → Value → Value → M) (ρ : Nat → Value) => l (ρ 0) (ρ 2) (ρ 3) (ρ 10) (ρ 27) (ρ 28) (ρ 29)) h (fun ρ w h => h) (fun nx self2 L2 ρ w h => ?_)
      unfold f10_b2 at h
      refine wp_seq ?_
      refine L_region ?_
      refine L_u (P_lt h) ?_
      intro v w h
      refine L_nil ?_
      refine E_n ?_
      refine wp_seq ?_
      refine C_cnd h (fun h => ?_) (fun h => ?_)
      · refine C_skip ?_
        refine E_n ?_
        refine wp_seq ?_
        refine C_blk ?_
        refine wp_seq ?_
        refine L_region ?_
        refine L_u (P_ia se22 h) ?_
        intro v w h
        refine L_u (P_ld sc33 h) ?_
        intro v w h
        refine L_as ?_
        refine L_nil ?_
        refine E_n ?_
        refine L_region ?_
        refine L_mv ?_
        refine L_mv ?_
        refine L_mv ?_
        refine L_u (P_ia se33 h) ?_
        intro v w h
        refine L_u (P_ldn ag31 h) ?_
        intro v w h
        refine L_mv ?_
        refine L_u (N_bsl h) ?_
        intro v w h
        refine L_u (P_sm rfl h) ?_
        intro v w h
        refine L_u (P_ex h) ?_
        intro v w h
        refine L_u (N_bi rfl h) ?_
        intro v w h
        refine L_u (P_ex h) ?_
        intro v w h
        refine L_u (P_smu rfl h) ?_
        intro w h
        refine L_nil ?_
        refine B_n ?_
        refine E_n ?_
        refine L_region ?_
        refine L_u (P_ad h) ?_
        intro v w h
        refine L_mv ?_
        refine L_nil ?_
        refine E_n ?_
        exact L2 _ _ h
      · refine C_exit ?_
        refine E_x ?_
        refine E_x ?_
        refine B_x ?_
        exact J1 _ _ h
    · unfold f10_j1 at h
      refine E_n ?_
      refine wp_seq ?_
      refine L_region ?_
      refine L_as ?_
      refine L_nil ?_
      refine E_n ?_
      refine wp_seq ?_
      refine wp_seq ?_
      refine L_region ?_
      refine L_mv ?_
      refine L_u (P_lnl is22 h) ?_
      intro v w h
      refine L_mv ?_
      refine L_nil ?_
      refine E_n ?_
      refine C_join (fun (k : Value → M) (ρ : Nat → Value) => k (ρ 13)) h (fun j3 J3 h => ?_) (fun ρ w h => ?_)
      · refine C_blk ?_
        refine C_lo (fun (l : Value → Value → Value → Value → Value → Value → M) (ρ : Nat → Value) => l (ρ 2) (ρ 10) (ρ 13) (ρ 45) (ρ 46) (ρ 47)) h (fun ρ w h => h) (fun nx self4 L4 ρ w h => ?_)
        unfold f10_b4 at h
        refine wp_seq ?_
        refine L_region ?_
        refine L_u (P_lt h) ?_
        intro v w h
        refine L_nil ?_
        refine E_n ?_
        refine wp_seq ?_
        refine C_cnd h (fun h => ?_) (fun h => ?_)
        · refine C_skip ?_
          refine E_n ?_
          refine wp_seq ?_
          refine C_blk ?_
          refine wp_seq ?_
          refine L_region ?_
          refine L_u (P_ia se22 h) ?_
          intro v w h
          refine L_u (P_ld sc33 h) ?_
          intro v w h
          refine L_as ?_
          refine L_nil ?_
          refine E_n ?_
          refine wp_seq ?_
          refine L_region ?_
          refine L_mv ?_
          refine L_mv ?_
          refine L_mv ?_
          refine L_u (P_ia se33 h) ?_
          intro v w h
          refine L_u (P_ldn ag31 h) ?_
          intro v w h
          refine L_u (P_smr rfl h) ?_
          intro v w h
          refine L_u (P_lnl is22 h) ?_
          intro v w h
          refine L_mv ?_
          refine L_nil ?_
          refine E_n ?_
          refine C_join (fun (k : Value → Value → Value → Value → Value → Value → M) (ρ : Nat → Value) => k (ρ 2) (ρ 10) (ρ 13) (ρ 45) (ρ 46) (ρ 47)) h (fun j5 J5 h => ?_) (fun ρ w h => ?_)
          · refine C_blk ?_
            refine C_lo (fun (l : Value → Value → Value → Value → Value → Value → Value → Value → Value → Value → M) (ρ : Nat → Value) => l (ρ 2) (ρ 10) (ρ 13) (ρ 15) (ρ 45) (ρ 46) (ρ 47) (ρ 56) (ρ 57) (ρ 58)) h (fun ρ w h => h) (fun nx self6 L6 ρ w h => ?_)
            unfold f10_b6 at h
            refine wp_seq ?_
            refine L_region ?_
            refine L_u (P_lt h) ?_
            intro v w h
            refine L_nil ?_
            refine E_n ?_
            refine wp_seq ?_
            refine C_cnd h (fun h => ?_) (fun h => ?_)
            · refine C_skip ?_
              refine E_n ?_
              refine wp_seq ?_
              refine C_blk ?_
              refine wp_seq ?_
              refine L_region ?_
              refine L_u (P_ia se22 h) ?_
              intro v w h
              refine L_u (P_ld sc33 h) ?_
              intro v w h
              refine L_as ?_
              refine L_nil ?_
              refine E_n ?_
              refine L_region ?_
              refine L_mv ?_
              refine L_mv ?_
              refine L_mv ?_
              refine L_u (N_bsl h) ?_
              intro v w h
              refine L_u (N_cl Try.func27 rfl nn27 (fun w Q h => s27 _ w Q h) h) ?_
              intro v w h
              refine L_u (N_bsl h) ?_
              intro v w h
              refine L_u (N_bi rfl h) ?_
              intro v w h
              refine L_as ?_
              refine L_nil ?_
              refine B_n ?_
              refine E_n ?_
              refine L_region ?_
              refine L_u (P_ad h) ?_
              intro v w h
              refine L_mv ?_
              refine L_nil ?_
              refine E_n ?_
              exact L6 _ _ h
            · refine C_exit ?_
              refine E_x ?_
              refine E_x ?_
              refine B_x ?_
              exact J5 _ _ h
          · unfold f10_j5 at h
            refine B_n ?_
            refine E_n ?_
            refine L_region ?_
            refine L_u (P_ad h) ?_
            intro v w h
            refine L_mv ?_
            refine L_nil ?_
            refine E_n ?_
            exact L4 _ _ h
        · refine C_exit ?_
          refine E_x ?_
          refine E_x ?_
          refine B_x ?_
          exact J3 _ _ h
      · unfold f10_j3 at h
        refine E_n ?_
        refine wp_seq ?_
        refine L_region ?_
        refine L_mv ?_
        refine L_as ?_
        refine L_as ?_
        refine L_nil ?_
        refine E_n ?_
        refine C_ret ?_
        show bodyPost Try.prog Try.f10 (Rt Q) .ret _ _
        exact post_tmps (ts := [8, 9]) (.inr rfl) rfl h

/- slices.Equal[factotum/api.Row,factotum/api.Value] -/
def f47_b2 (j1 : M) (self2 : Value → Value → Value → Value → M) (t0_1 t1_1 t12_1 t13 : Value) : M :=
  lt .i64 t13 t12_1 fun t14 =>
  cnd t14 (
    dr <|
    idv t0_1 fun t16 =>
    idv t13 fun t17 =>
    ia 3 t16 t17 fun t18 =>
    ldn 3 t18 fun t19 =>
    idv t1_1 fun t20 =>
    idv t13 fun t21 =>
    ia 3 t20 t21 fun t22 =>
    ldn 3 t22 fun t23 =>
    smr Try.prog (do eqGuard .neq 31 (.tmp 19) (.tmp 23) t19 t23; binOp .neq 31 t19 t23) fun t24 =>
    cnd t24 (
      rt (.bool false)
      ) (
      ad .i64 t13 (.int .i64 1) fun t25 =>
      self2 t0_1 t1_1 t12_1 t25
      )
    ) (
    j1
    )
def f47_j1 : M :=
  rt (.bool true)
def f47 (t0 t1 : Value) : M :=
  lnl t0 fun t7 =>
  lnl t1 fun t9 =>
  nei .i64 t7 t9 fun t10 =>
  cnd t10 (
    rt (.bool false)
    ) (
    lnl t0 fun t12 =>
    jn (fun (j1 : M) =>
      lo (fun _ _ _ _ => bot) (f47_b2 j1) (fun l => l t0 t1 t12 (.int .i64 0))
      ) (f47_j1)
    )
theorem s47 (t0 t1 : Value) (w : World) (Q : Value → World → Prop) (h : f47 t0 t1 w Q) : Calls Try.prog 47 #[t0, t1] w (Rt Q) := by
  refine calls_of (l := [t0, t1]) Try.func47 rfl Try.ntmps47 (Nat.le_of_ble_eq_true rfl) ?_
  unfold f47 at h
  refine wp_seq ?_
  refine L_region ?_
  refine L_as ?_
  refine L_nil ?_
  refine E_n ?_
  refine wp_seq ?_
  refine wp_seq ?_
  refine L_region ?_
  refine L_mv ?_
  refine L_u (P_lnl is33 h) ?_
  intro v w h
  refine L_mv ?_
  refine L_u (P_lnl is33 h) ?_
  intro v w h
  refine L_u (P_nei h) ?_
  intro v w h
  refine L_nil ?_
  refine E_n ?_
  refine C_cnd h (fun h => ?_) (fun h => ?_)
  · refine wp_seq ?_
    refine L_region ?_
    refine L_as ?_
    refine L_nil ?_
    refine E_n ?_
    refine C_ret ?_
    show bodyPost Try.prog Try.f47 (Rt Q) .ret _ _
    exact post_tmps (ts := [4]) (.inr rfl) rfl h
  · refine C_skip ?_
    refine E_n ?_
    refine wp_seq ?_
    refine wp_seq ?_
    refine L_region ?_
    refine L_mv ?_
    refine L_u (P_lnl is33 h) ?_
    intro v w h
    refine L_mv ?_
    refine L_nil ?_
    refine E_n ?_
    refine C_join (fun (k : M) (ρ : Nat → Value) => k) h (fun j1 J1 h => ?_) (fun ρ w h => ?_)
    · refine C_blk ?_
      refine C_lo (fun (l : Value → Value → Value → Value → M) (ρ : Nat → Value) => l (ρ 0) (ρ 1) (ρ 12) (ρ 13)) h (fun ρ w h => h) (fun nx self2 L2 ρ w h => ?_)
      unfold f47_b2 at h
      refine wp_seq ?_
      refine L_region ?_
      refine L_u (P_lt h) ?_
      intro v w h
      refine L_nil ?_
      refine E_n ?_
      refine wp_seq ?_
      refine C_cnd h (fun h => ?_) (fun h => ?_)
      · refine C_skip ?_
        refine E_n ?_
        refine wp_seq ?_
        refine C_blk ?_
        refine wp_seq ?_
        refine L_region ?_
        refine L_mv ?_
        refine L_as ?_
        refine L_nil ?_
        refine E_n ?_
        refine wp_seq ?_
        refine D_region (by decide +kernel) 9 rfl ?_
        replace h := dr_e h
        refine G_p 0 rfl (by decide +kernel) (Y_mv h) ?_
        intro v h
        refine G_p 1 rfl (by decide +kernel) (Y_mv h) ?_
        intro v h
        refine G_p 2 rfl (by decide +kernel) (Y_ia se33 h) ?_
        intro v h
        refine G_r _ 3 rfl (by decide +kernel) (R_ldn ag31 h) ?_
        intro v h
        refine G_p 4 rfl (by decide +kernel) (Y_mv h) ?_
        intro v h
        refine G_p 5 rfl (by decide +kernel) (Y_mv h) ?_
        intro v h
        refine G_p 6 rfl (by decide +kernel) (Y_ia se33 h) ?_
        intro v h
        refine G_r _ 7 rfl (by decide +kernel) (R_ldn ag31 h) ?_
        intro v h
        refine G_r _ 8 rfl (by decide +kernel) (R_sm rfl h) ?_
        intro v h
        refine G_done (by decide +kernel) ?_
        refine E_n ?_
        refine C_cnd h (fun h => ?_) (fun h => ?_)
        · refine wp_seq ?_
          refine L_region ?_
          refine L_as ?_
          refine L_nil ?_
          refine E_n ?_
          refine C_ret ?_
          show bodyPost Try.prog Try.f47 (Rt Q) .ret _ _
          exact post_tmps (ts := [4]) (.inr rfl) rfl h
        · refine C_skip ?_
          refine B_n ?_
          refine E_n ?_
          refine L_region ?_
          refine L_u (P_ad h) ?_
          intro v w h
          refine L_mv ?_
          refine L_nil ?_
          refine E_n ?_
          exact L2 _ _ h
      · refine C_exit ?_
        refine E_x ?_
        refine E_x ?_
        refine B_x ?_
        exact J1 _ _ h
    · unfold f47_j1 at h
      refine E_n ?_
      refine wp_seq ?_
      refine L_region ?_
      refine L_as ?_
      refine L_nil ?_
      refine E_n ?_
      refine C_ret ?_
      show bodyPost Try.prog Try.f47 (Rt Q) .ret _ _
      exact post_tmps (ts := [4]) (.inr rfl) rfl h

/- factotum/relate.has$1 -/
def f46 (t0 t1 : Value) : M :=
  ld t1 fun t4 =>
  cl (f47 t4 t0) fun t6 =>
  rt t6
theorem s46 (t0 t1 : Value) (w : World) (Q : Value → World → Prop) (h : f46 t0 t1 w Q) : Calls Try.prog 46 #[t0, t1] w (Rt Q) := by
  refine calls_of (l := [t0, t1]) Try.func46 rfl Try.ntmps46 (Nat.le_of_ble_eq_true rfl) ?_
  unfold f46 at h
  refine wp_seq ?_
  refine L_region ?_
  refine L_as ?_
  refine L_nil ?_
  refine E_n ?_
  refine wp_seq ?_
  refine L_region ?_
  refine L_u (P_ld sc33 h) ?_
  intro v w h
  refine L_mv ?_
  refine L_u (N_cl Try.func47 rfl nn47 (fun w Q h => s47 _ _ w Q h) h) ?_
  intro v w h
  refine L_as ?_
  refine L_nil ?_
  refine E_n ?_
  refine C_ret ?_
  show bodyPost Try.prog Try.f46 (Rt Q) .ret _ _
  exact post_tmps (ts := [3]) (.inr rfl) rfl h

/- factotum/relate.has -/
def f29 (t0 t1 : Value) : M :=
  bx 33 t1 fun t3 =>
  idv (.func (.func 46) #[] #[t3]) fun t6 =>
  cl (f43 t0 t6) fun t7 =>
  rt t7
theorem s29 (t0 t1 : Value) (w : World) (Q : Value → World → Prop) (h : f29 t0 t1 w Q) : Calls Try.prog 29 #[t0, t1] w (Rt Q) := by
  refine calls_of (l := [t0, t1]) Try.func29 rfl Try.ntmps29 (Nat.le_of_ble_eq_true rfl) ?_
  unfold f29 at h
  refine wp_seq ?_
  refine L_region ?_
  refine L_u (P_bx h) ?_
  intro v w h
  refine L_as ?_
  refine L_nil ?_
  refine E_n ?_
  refine wp_seq ?_
  refine L_region ?_
  refine L_mv ?_
  refine L_u (N_mf h) ?_
  intro v w h
  refine L_u (N_cl Try.func43 rfl nn43 (fun w Q h => s43 _ _ w Q h) h) ?_
  intro v w h
  refine L_as ?_
  refine L_nil ?_
  refine E_n ?_
  refine C_ret ?_
  show bodyPost Try.prog Try.f29 (Rt Q) .ret _ _
  exact post_tmps (ts := [4]) (.inr rfl) rfl h

/- slices.Clone[factotum/api.Row,factotum/api.Value] -/
def f30 (t0 : Value) : M :=
  smr Try.prog (do eqGuard .eql 33 (.tmp 3) (.const (.slice none 0 0)) t0 (.slice none 0 0); binOp .eql 33 t0 (.slice none 0 0)) fun t4 =>
  cnd t4 (
    rt (.slice none 0 0)
    ) (
    sm Try.prog (Instr.buildSlice 33 0 #[]) fun t5 =>
    sm Try.prog (Builtin.append_ #[33, 33] 33 #[t5, t0]) fun t7 =>
    rt t7
    )
theorem s30 (t0 : Value) (w : World) (Q : Value → World → Prop) (h : f30 t0 w Q) : Calls Try.prog 30 #[t0] w (Rt Q) := by
  refine calls_of (l := [t0]) Try.func30 rfl Try.ntmps30 (Nat.le_of_ble_eq_true rfl) ?_
  unfold f30 at h
  refine wp_seq ?_
  refine L_region ?_
  refine L_as ?_
  refine L_nil ?_
  refine E_n ?_
  refine wp_seq ?_
  refine wp_seq ?_
  refine L_region ?_
  refine L_mv ?_
  refine L_u (P_smr rfl h) ?_
  intro v w h
  refine L_nil ?_
  refine E_n ?_
  refine C_cnd h (fun h => ?_) (fun h => ?_)
  · refine wp_seq ?_
    refine L_region ?_
    refine L_as ?_
    refine L_nil ?_
    refine E_n ?_
    refine C_ret ?_
    show bodyPost Try.prog Try.f30 (Rt Q) .ret _ _
    exact post_tmps (ts := [2]) (.inr rfl) rfl h
  · refine C_skip ?_
    refine E_n ?_
    refine wp_seq ?_
    refine L_region ?_
    refine L_u (N_bsl h) ?_
    intro v w h
    refine L_mv ?_
    refine L_u (N_bi rfl h) ?_
    intro v w h
    refine L_as ?_
    refine L_nil ?_
    refine E_n ?_
    refine C_ret ?_
    show bodyPost Try.prog Try.f30 (Rt Q) .ret _ _
    exact post_tmps (ts := [2]) (.inr rfl) rfl h

/- factotum/relate.Once -/
def f14_j3 (self2 : Value → Value → Value → Value → M) (t3_1 t6_1 t7_2 t8_1 : Value) : M :=
  ad .i64 t8_1 (.int .i64 1) fun t21 =>
  self2 t3_1 t6_1 t7_2 t21
def f14_b2 (j1 : Value → M) (self2 : Value → Value → Value → Value → M) (t3 t6 t7_1 t8 : Value) : M :=
  lt .i64 t8 t7_1 fun t9 =>
  cnd t9 (
    ia 1 t6 t8 fun t10 =>
    ld t10 fun t11 =>
    cl (f29 t3 t11) fun t14 =>
    nt t14 fun t15 =>
    jn (fun (j3 : Value → Value → Value → Value → M) =>
      cnd t15 (
        cl (f30 t11) fun t18 =>
        sm Try.prog (Instr.buildSlice 22 1 #[(0, t18)]) fun t19 =>
        sm Try.prog (Builtin.append_ #[22, 22] 22 #[t3, t19]) fun t20 =>
        j3 t20 t6 t7_1 t8
        ) (
        j3 t3 t6 t7_1 t8
        )
      ) (f14_j3 self2)
    ) (
    j1 t3
    )
def f14_j1 (t3_2 : Value) : M :=
  rt t3_2
def f14 (t0 : Value) : M :=
  lnl t0 fun t7 =>
  jn (fun (j1 : Value → M) =>
    lo (fun _ _ _ _ => bot) (f14_b2 j1) (fun l => l (.slice none 0 0) t0 t7 (.int .i64 0))
    ) (f14_j1)
theorem s14 (t0 : Value) (w : World) (Q : Value → World → Prop) (h : f14 t0 w Q) : Calls Try.prog 14 #[t0] w (Rt Q) := by
  refine calls_of (l := [t0]) Try.func14 rfl Try.ntmps14 (Nat.le_of_ble_eq_true rfl) ?_
  unfold f14 at h
  refine wp_seq ?_
  refine L_region ?_
  refine L_as ?_
  refine L_nil ?_
  refine E_n ?_
  refine wp_seq ?_
  refine L_region ?_
  refine L_as ?_
  refine L_nil ?_
  refine E_n ?_
  refine wp_seq ?_
  refine wp_seq ?_
  refine L_region ?_
  refine L_mv ?_
  refine L_u (P_lnl is22 h) ?_
  intro v w h
  refine L_mv ?_
  refine L_nil ?_
  refine E_n ?_
  refine C_join (fun (k : Value → M) (ρ : Nat → Value) => k (ρ 3)) h (fun j1 J1 h => ?_) (fun ρ w h => ?_)
  · refine C_blk ?_
    refine C_lo (fun (l : Value → Value → Value → Value → M) (ρ : Nat → Value) => l (ρ 3) (ρ 6) (ρ 7) (ρ 8)) h (fun ρ w h => h) (fun nx self2 L2 ρ w h => ?_)
    unfold f14_b2 at h
    refine wp_seq ?_
    refine L_region ?_
    refine L_u (P_lt h) ?_
    intro v w h
    refine L_nil ?_
    refine E_n ?_
    refine wp_seq ?_
    refine C_cnd h (fun h => ?_) (fun h => ?_)
    · refine C_skip ?_
      refine E_n ?_
      refine wp_seq ?_
      refine C_blk ?_
      refine wp_seq ?_
      refine L_region ?_
      refine L_u (P_ia se22 h) ?_
      intro v w h
      refine L_u (P_ld sc33 h) ?_
      intro v w h
      refine L_as ?_
      refine L_nil ?_
      refine E_n ?_
      refine wp_seq ?_
      refine L_region ?_
      refine L_mv ?_
      refine L_mv ?_
      refine L_u (N_cl Try.func29 rfl nn29 (fun w Q h => s29 _ _ w Q h) h) ?_
      intro v w h
      refine L_u (P_nt h) ?_
      intro v w h
      refine L_nil ?_
      refine E_n ?_
      refine C_join (fun (k : Value → Value → Value → Value → M) (ρ : Nat → Value) => k (ρ 3) (ρ 6) (ρ 7) (ρ 8)) h (fun j3 J3 h => ?_) (fun ρ w h => ?_)
      · refine C_cnd h (fun h => ?_) (fun h => ?_)
        · refine L_region ?_
          refine L_mv ?_
          refine L_mv ?_
          refine L_u (N_cl Try.func30 rfl nn30 (fun w Q h => s30 _ w Q h) h) ?_
          intro v w h
          refine L_u (N_bsl h) ?_
          intro v w h
          refine L_u (N_bi rfl h) ?_
          intro v w h
          refine L_as ?_
          refine L_nil ?_
          exact J3 _ _ h
        · refine C_skip ?_
          exact J3 _ _ h
      · unfold f14_j3 at h
        refine B_n ?_
        refine E_n ?_
        refine L_region ?_
        refine L_u (P_ad h) ?_
        intro v w h
        refine L_mv ?_
        refine L_nil ?_
        refine E_n ?_
        exact L2 _ _ h
    · refine C_exit ?_
      refine E_x ?_
      refine E_x ?_
      refine B_x ?_
      exact J1 _ _ h
  · unfold f14_j1 at h
    refine E_n ?_
    refine wp_seq ?_
    refine L_region ?_
    refine L_mv ?_
    refine L_as ?_
    refine L_nil ?_
    refine E_n ?_
    refine C_ret ?_
    show bodyPost Try.prog Try.f14 (Rt Q) .ret _ _
    exact post_tmps (ts := [2]) (.inr rfl) rfl h

/- factotum/factotumlaw31.num -/
def f25 (t0 : Value) : M :=
  al 31 #[(.int .i64 0), (.int .i64 0), (.string ⟨#[]⟩)] fun t2 =>
  smr Try.prog (Instr.build 31 #[(0, (.int .i64 1)), (1, t0)]) fun t4 =>
  stn 3 t2 t4 <|
  ldn 3 t2 fun r0 =>
  rt r0
theorem s25 (t0 : Value) (w : World) (Q : Value → World → Prop) (h : f25 t0 w Q) : Calls Try.prog 25 #[t0] w (Rt Q) := by
  refine calls_of (l := [t0]) Try.func25 rfl Try.ntmps25 (Nat.le_of_ble_eq_true rfl) ?_
  unfold f25 at h
  refine wp_seq ?_
  refine L_region ?_
  refine L_u (P_al ze31 rfl h) ?_
  intro v w h
  refine L_nil ?_
  refine E_n ?_
  refine wp_seq ?_
  refine L_region ?_
  refine L_mv ?_
  refine L_u (N_bld h) ?_
  intro v w h
  refine L_u (P_stn ag31 h) ?_
  intro w h
  refine L_nil ?_
  refine E_n ?_
  refine C_ret ?_
  show bodyPost Try.prog Try.f25 (Rt Q) .ret _ _
  refine post_res [.cell 2 31] (.inr rfl) rfl ?_
  refine res_ldn 2 31 ag31 (by exact h) (fun _ hr0 h => ?_)
  exact ⟨[_], ⟨hr0, trivial⟩, h⟩

/- factotum/factotumlaw31.lives -/
def f8 : M :=
  cl (f25 (.int .i64 1)) fun t4 =>
  sm Try.prog (Instr.buildSlice 33 1 #[(0, t4)]) fun t5 =>
  cl (f25 (.int .i64 2)) fun t6 =>
  sm Try.prog (Instr.buildSlice 33 1 #[(0, t6)]) fun t7 =>
  sm Try.prog (Instr.buildSlice 22 2 #[(0, t5), (1, t7)]) fun t8 =>
  cl (f25 (.int .i64 2)) fun t9 =>
  cl (f25 (.int .i64 7)) fun t10 =>
  sm Try.prog (Instr.buildSlice 33 2 #[(0, t9), (1, t10)]) fun t11 =>
  cl (f25 (.int .i64 2)) fun t12 =>
  cl (f25 (.int .i64 8)) fun t13 =>
  sm Try.prog (Instr.buildSlice 33 2 #[(0, t12), (1, t13)]) fun t14 =>
  sm Try.prog (Instr.buildSlice 22 2 #[(0, t11), (1, t14)]) fun t15 =>
  cl (f10 t8 t15 (.int .i64 0) (.int .i64 0)) fun t16 =>
  ex 0 t16 fun t17 =>
  ex 1 t16 fun t18 =>
  dr <|
  idv t18 fun t19 =>
  eqi .i64 t19 (.int .i64 0) fun t20 =>
  idv t20 fun t21 =>
  gd t21 true (idv t17) fun t22 =>
  gd t21 true (lnl t22) fun t23 =>
  gd t21 true (eqi .i64 t23 (.int .i64 2)) fun t24 =>
  pk t21 t24 (.bool false) fun t25 =>
  idv t25 fun t26 =>
  gd t26 true (idv t17) fun t27 =>
  gd t26 true (ia 1 t27 (.int .i64 1)) fun t28 =>
  gd t26 true (ld t28) fun t29 =>
  gd t26 true (lnl t29) fun t30 =>
  gd t26 true (eqi .i64 t30 (.int .i64 3)) fun t31 =>
  pk t26 t31 (.bool false) fun t32 =>
  idv t32 fun t33 =>
  gd t33 true (idv t17) fun t34 =>
  gd t33 true (ia 1 t34 (.int .i64 1)) fun t35 =>
  gd t33 true (ld t35) fun t36 =>
  gd t33 true (ia 3 t36 (.int .i64 2)) fun t37 =>
  gd t33 true (ldn 3 t37) fun t38 =>
  gd t33 true (cl (f25 (.int .i64 8))) fun t39 =>
  kp (fun w => gdB t33 true = true → Kldn 3 t37 t38 w) <|
  kp (fun w => gdB t33 true = true → Kld t35 t36 w) <|
  gd t33 true (smr Try.prog (do eqGuard .eql 31 (.tmp 38) (.tmp 39) t38 t39; binOp .eql 31 t38 t39)) fun t40 =>
  pk t33 t40 (.bool false) fun t41 =>
  idv t41 fun t42 =>
  gd t42 true (cl (f25 (.int .i64 1))) fun t43 =>
  amb (
    gd t42 true (sm Try.prog (Instr.buildSlice 33 1 #[(0, t43)])) fun t44 =>
    gd t42 true (cl (f25 (.int .i64 1))) fun t45_1 =>
    gd t42 true (sm Try.prog (Instr.buildSlice 33 1 #[(0, t45_1)])) fun t46 =>
    gd t42 true (sm Try.prog (Instr.buildSlice 22 2 #[(0, t44), (1, t46)])) fun t47 =>
    gd t42 true (cl (f14 t47)) fun t48 =>
    gd t42 true (lnl t48) fun t49 =>
    gd t42 true (eqi .i64 t49 (.int .i64 1)) fun t50 =>
    pk t42 t50 (.bool false) fun t51 =>
    idv t51 fun t0 =>
    rt t0
    ) (
    gd t42 true (cl (f25 (.int .i64 1))) fun t45 =>
    amb (
      gd t42 true (sm Try.prog (Instr.buildSlice 33 1 #[(0, t43)])) fun t44_1 =>
      gd t42 true (sm Try.prog (Instr.buildSlice 33 1 #[(0, t45)])) fun t46_2 =>
      gd t42 true (sm Try.prog (Instr.buildSlice 22 2 #[(0, t44_1), (1, t46_2)])) fun t47_1 =>
      gd t42 true (cl (f14 t47_1)) fun t48_1 =>
      gd t42 true (lnl t48_1) fun t49_1 =>
      gd t42 true (eqi .i64 t49_1 (.int .i64 1)) fun t50_1 =>
      pk t42 t50_1 (.bool false) fun t51_1 =>
      idv t51_1 fun t0_1 =>
      rt t0_1
      ) (
      gd t42 true (sm Try.prog (Instr.buildSlice 33 1 #[(0, t45)])) fun t46_1 =>
      gd t42 true (sm Try.prog (Instr.buildSlice 33 1 #[(0, t43)])) fun t44_2 =>
      gd t42 true (sm Try.prog (Instr.buildSlice 22 2 #[(0, t44_2), (1, t46_1)])) fun t47_2 =>
      gd t42 true (cl (f14 t47_2)) fun t48_2 =>
      gd t42 true (lnl t48_2) fun t49_2 =>
      gd t42 true (eqi .i64 t49_2 (.int .i64 1)) fun t50_2 =>
      pk t42 t50_2 (.bool false) fun t51_2 =>
      idv t51_2 fun t0_2 =>
      rt t0_2
      )
    )
theorem s8 (w : World) (Q : Value → World → Prop) (h : f8 w Q) : Calls Try.prog 8 #[] w (Rt Q) := by
  refine calls_of (l := []) Try.func8 rfl Try.ntmps8 (Nat.le_of_ble_eq_true rfl) ?_
  unfold f8 at h
  refine wp_seq ?_
  refine L_region ?_
  refine L_as ?_
  refine L_nil ?_
  refine E_n ?_
  refine wp_seq ?_
  refine L_region ?_
  refine L_u (N_cl Try.func25 rfl nn25 (fun w Q h => s25 _ w Q h) h) ?_
  intro v w h
  refine L_u (N_bsl h) ?_
  intro v w h
  refine L_u (N_cl Try.func25 rfl nn25 (fun w Q h => s25 _ w Q h) h) ?_
  intro v w h
  refine L_u (N_bsl h) ?_
  intro v w h
  refine L_u (N_bsl h) ?_
  intro v w h
  refine L_u (N_cl Try.func25 rfl nn25 (fun w Q h => s25 _ w Q h) h) ?_
  intro v w h
  refine L_u (N_cl Try.func25 rfl nn25 (fun w Q h => s25 _ w Q h) h) ?_
  intro v w h
  refine L_u (N_bsl h) ?_
  intro v w h
  refine L_u (N_cl Try.func25 rfl nn25 (fun w Q h => s25 _ w Q h) h) ?_
  intro v w h
  refine L_u (N_cl Try.func25 rfl nn25 (fun w Q h => s25 _ w Q h) h) ?_
  intro v w h
  refine L_u (N_bsl h) ?_
  intro v w h
  refine L_u (N_bsl h) ?_
  intro v w h
  refine L_u (N_cl Try.func10 rfl nn10 (fun w Q h => s10 _ _ _ _ w Q h) h) ?_
  intro v w h
  refine L_mv ?_
  refine L_u (P_ex h) ?_
  intro v w h
  refine L_u (P_ex h) ?_
  intro v w h
  refine L_as ?_
  refine L_as ?_
  refine L_nil ?_
  refine E_n ?_
  refine wp_seq ?_
  refine D_region (by decide +kernel) 34 rfl ?_
  replace h := dr_e h
  refine G_p 0 rfl (by decide +kernel) (Y_mv h) ?_
  intro v h
  refine G_p 1 rfl (by decide +kernel) (Y_eqi h) ?_
  intro v h
  refine G_p 2 rfl (by decide +kernel) (Y_mv h) ?_
  intro v h
  refine G_pg (t := 21) 3 rfl (by decide +kernel) h rfl rfl (fun h => Y_mv h) ?_
  intro v h
  refine G_pg (t := 21) 4 rfl (by decide +kernel) h rfl rfl (fun h => Y_lnl is22 h) ?_
  intro v h
  refine G_pg (t := 21) 5 rfl (by decide +kernel) h rfl rfl (fun h => Y_eqi h) ?_
  intro v h
  refine G_p 6 rfl (by decide +kernel) (Y_pk h) ?_
  intro v h
  refine G_p 7 rfl (by decide +kernel) (Y_mv h) ?_
  intro v h
  refine G_pg (t := 26) 8 rfl (by decide +kernel) h rfl rfl (fun h => Y_mv h) ?_
  intro v h
  refine G_pg (t := 26) 9 rfl (by decide +kernel) h rfl rfl (fun h => Y_ia se22 h) ?_
  intro v h
  refine G_rg (t := 26) _ 10 rfl (by decide +kernel) h rfl rfl (fun h => R_ld sc33 h) ?_
  intro v h
  refine G_pg (t := 26) 11 rfl (by decide +kernel) h rfl rfl (fun h => Y_lnl is33 h) ?_
  intro v h
  refine G_pg (t := 26) 12 rfl (by decide +kernel) h rfl rfl (fun h => Y_eqi h) ?_
  intro v h
  refine G_p 13 rfl (by decide +kernel) (Y_pk h) ?_
  intro v h
  refine G_p 14 rfl (by decide +kernel) (Y_mv h) ?_
  intro v h
  refine G_pg (t := 33) 15 rfl (by decide +kernel) h rfl rfl (fun h => Y_mv h) ?_
  intro v h
  refine G_pg (t := 33) 16 rfl (by decide +kernel) h rfl rfl (fun h => Y_ia se22 h) ?_
  intro v h
  refine G_rg (t := 33) _ 17 rfl (by decide +kernel) h rfl rfl (fun h => R_ld sc33 h) ?_
  intro v h
  refine G_pg (t := 33) 18 rfl (by decide +kernel) h rfl rfl (fun h => Y_ia se33 h) ?_
  intro v h
  refine G_rg (t := 33) _ 19 rfl (by decide +kernel) h rfl rfl (fun h => R_ldn ag31 h) ?_
  intro v h
  refine G_eg (t := 33) 20 rfl (by decide +kernel) h rfl rfl (fun c h => N_cl Try.func25 rfl nn25 (fun w Q h => s25 _ w Q h) h c) ?_
  intro v w h
  refine ⟨keepF_cons (kp_1 h) (keepF_cons (kp_1 (kp_2 h)) (keepF_dep [14, 13, 12, 11, 10] (by decide +kernel) rfl keepF_nil)), ?_⟩
  replace h := (kp_2 (kp_2 h))
  refine G_rg (t := 33) _ 21 rfl (by decide +kernel) h rfl rfl (fun h => R_sm rfl h) ?_
  intro v h
  refine G_p 22 rfl (by decide +kernel) (Y_pk h) ?_
  intro v h
  refine G_p 23 rfl (by decide +kernel) (Y_mv h) ?_
  intro v h
  refine G_eg (t := 42) 24 rfl (by decide +kernel) h rfl rfl (fun c h => N_cl Try.func25 rfl nn25 (fun w Q h => s25 _ w Q h) h c) ?_
  intro v w h
  refine ⟨keepF_dep [23, 22, 21] (by decide +kernel) rfl (keepF_dep [23, 22, 21, 19] (by decide +kernel) rfl (keepF_dep [23, 22, 21, 19, 18, 17] (by decide +kernel) rfl (keepF_dep [23, 22, 14, 13, 12, 11, 10] (by decide +kernel) rfl keepF_nil))), ?_⟩
  refine G_two (i := 25) (j := 26) (by decide +kernel) (G_opg (t := 42) rfl (amb_1 h) rfl rfl (fun c h => N_bsl h c) ?_) (G_opg (t := 42) rfl (amb_2 h) rfl rfl (fun c h => N_cl Try.func25 rfl nn25 (fun w Q h => s25 _ w Q h) h c) ?_)
  · intro v w h
    refine ⟨keepF_dep [23, 22, 21] (by decide +kernel) rfl (keepF_dep [23, 22, 21, 19] (by decide +kernel) rfl (keepF_dep [23, 22, 21, 19, 18, 17] (by decide +kernel) rfl (keepF_dep [23, 22, 14, 13, 12, 11, 10] (by decide +kernel) rfl keepF_nil))), ?_⟩
    refine G_eg (t := 42) 26 rfl (by decide +kernel) h rfl rfl (fun c h => N_cl Try.func25 rfl nn25 (fun w Q h => s25 _ w Q h) h c) ?_
    intro v w h
    refine ⟨keepF_dep [23, 22, 21] (by decide +kernel) rfl (keepF_dep [23, 22, 21, 19] (by decide +kernel) rfl (keepF_dep [23, 22, 21, 19, 18, 17] (by decide +kernel) rfl (keepF_dep [23, 22, 14, 13, 12, 11, 10] (by decide +kernel) rfl keepF_nil))), ?_⟩
    refine G_eg (t := 42) 27 rfl (by decide +kernel) h rfl rfl (fun c h => N_bsl h c) ?_
    intro v w h
    refine ⟨keepF_dep [23, 22, 21] (by decide +kernel) rfl (keepF_dep [23, 22, 21, 19] (by decide +kernel) rfl (keepF_dep [23, 22, 21, 19, 18, 17] (by decide +kernel) rfl (keepF_dep [23, 22, 14, 13, 12, 11, 10] (by decide +kernel) rfl keepF_nil))), ?_⟩
    refine G_eg (t := 42) 28 rfl (by decide +kernel) h rfl rfl (fun c h => N_bsl h c) ?_
    intro v w h
    refine ⟨keepF_dep [23, 22, 21] (by decide +kernel) rfl (keepF_dep [23, 22, 21, 19] (by decide +kernel) rfl (keepF_dep [23, 22, 21, 19, 18, 17] (by decide +kernel) rfl (keepF_dep [23, 22, 14, 13, 12, 11, 10] (by decide +kernel) rfl keepF_nil))), ?_⟩
    refine G_eg (t := 42) 29 rfl (by decide +kernel) h rfl rfl (fun c h => N_cl Try.func14 rfl nn14 (fun w Q h => s14 _ w Q h) h c) ?_
    intro v w h
    refine ⟨keepF_dep [23, 22, 21] (by decide +kernel) rfl (keepF_dep [23, 22, 21, 19] (by decide +kernel) rfl (keepF_dep [23, 22, 21, 19, 18, 17] (by decide +kernel) rfl (keepF_dep [23, 22, 14, 13, 12, 11, 10] (by decide +kernel) rfl keepF_nil))), ?_⟩
    refine G_pg (t := 42) 30 rfl (by decide +kernel) h rfl rfl (fun h => Y_lnl is22 h) ?_
    intro v h
    refine G_pg (t := 42) 31 rfl (by decide +kernel) h rfl rfl (fun h => Y_eqi h) ?_
    intro v h
    refine G_p 32 rfl (by decide +kernel) (Y_pk h) ?_
    intro v h
    refine G_p 33 rfl (by decide +kernel) (Y_as h) ?_
    intro v h
    refine G_done (by decide +kernel) ?_
    refine E_n ?_
    refine C_ret ?_
    show bodyPost Try.prog Try.f8 (Rt Q) .ret _ _
    exact post_tmps (ts := [0]) (.inr rfl) rfl h
  · intro v w h
    refine ⟨keepF_dep [23, 22, 21] (by decide +kernel) rfl (keepF_dep [23, 22, 21, 19] (by decide +kernel) rfl (keepF_dep [23, 22, 21, 19, 18, 17] (by decide +kernel) rfl (keepF_dep [23, 22, 14, 13, 12, 11, 10] (by decide +kernel) rfl keepF_nil))), ?_⟩
    refine G_two (i := 25) (j := 27) (by decide +kernel) (G_opg (t := 42) rfl (amb_1 h) rfl rfl (fun c h => N_bsl h c) ?_) (G_opg (t := 42) rfl (amb_2 h) rfl rfl (fun c h => N_bsl h c) ?_)
    · intro v w h
      refine ⟨keepF_dep [23, 22, 21] (by decide +kernel) rfl (keepF_dep [23, 22, 21, 19] (by decide +kernel) rfl (keepF_dep [23, 22, 21, 19, 18, 17] (by decide +kernel) rfl (keepF_dep [23, 22, 14, 13, 12, 11, 10] (by decide +kernel) rfl keepF_nil))), ?_⟩
      refine G_eg (t := 42) 27 rfl (by decide +kernel) h rfl rfl (fun c h => N_bsl h c) ?_
      intro v w h
      refine ⟨keepF_dep [23, 22, 21] (by decide +kernel) rfl (keepF_dep [23, 22, 21, 19] (by decide +kernel) rfl (keepF_dep [23, 22, 21, 19, 18, 17] (by decide +kernel) rfl (keepF_dep [23, 22, 14, 13, 12, 11, 10] (by decide +kernel) rfl keepF_nil))), ?_⟩
      refine G_eg (t := 42) 28 rfl (by decide +kernel) h rfl rfl (fun c h => N_bsl h c) ?_
      intro v w h
      refine ⟨keepF_dep [23, 22, 21] (by decide +kernel) rfl (keepF_dep [23, 22, 21, 19] (by decide +kernel) rfl (keepF_dep [23, 22, 21, 19, 18, 17] (by decide +kernel) rfl (keepF_dep [23, 22, 14, 13, 12, 11, 10] (by decide +kernel) rfl keepF_nil))), ?_⟩
      refine G_eg (t := 42) 29 rfl (by decide +kernel) h rfl rfl (fun c h => N_cl Try.func14 rfl nn14 (fun w Q h => s14 _ w Q h) h c) ?_
      intro v w h
      refine ⟨keepF_dep [23, 22, 21] (by decide +kernel) rfl (keepF_dep [23, 22, 21, 19] (by decide +kernel) rfl (keepF_dep [23, 22, 21, 19, 18, 17] (by decide +kernel) rfl (keepF_dep [23, 22, 14, 13, 12, 11, 10] (by decide +kernel) rfl keepF_nil))), ?_⟩
      refine G_pg (t := 42) 30 rfl (by decide +kernel) h rfl rfl (fun h => Y_lnl is22 h) ?_
      intro v h
      refine G_pg (t := 42) 31 rfl (by decide +kernel) h rfl rfl (fun h => Y_eqi h) ?_
      intro v h
      refine G_p 32 rfl (by decide +kernel) (Y_pk h) ?_
      intro v h
      refine G_p 33 rfl (by decide +kernel) (Y_as h) ?_
      intro v h
      refine G_done (by decide +kernel) ?_
      refine E_n ?_
      refine C_ret ?_
      show bodyPost Try.prog Try.f8 (Rt Q) .ret _ _
      exact post_tmps (ts := [0]) (.inr rfl) rfl h
    · intro v w h
      refine ⟨keepF_dep [23, 22, 21] (by decide +kernel) rfl (keepF_dep [23, 22, 21, 19] (by decide +kernel) rfl (keepF_dep [23, 22, 21, 19, 18, 17] (by decide +kernel) rfl (keepF_dep [23, 22, 14, 13, 12, 11, 10] (by decide +kernel) rfl keepF_nil))), ?_⟩
      refine G_eg (t := 42) 25 rfl (by decide +kernel) h rfl rfl (fun c h => N_bsl h c) ?_
      intro v w h
      refine ⟨keepF_dep [23, 22, 21] (by decide +kernel) rfl (keepF_dep [23, 22, 21, 19] (by decide +kernel) rfl (keepF_dep [23, 22, 21, 19, 18, 17] (by decide +kernel) rfl (keepF_dep [23, 22, 14, 13, 12, 11, 10] (by decide +kernel) rfl keepF_nil))), ?_⟩
      refine G_eg (t := 42) 28 rfl (by decide +kernel) h rfl rfl (fun c h => N_bsl h c) ?_
      intro v w h
      refine ⟨keepF_dep [23, 22, 21] (by decide +kernel) rfl (keepF_dep [23, 22, 21, 19] (by decide +kernel) rfl (keepF_dep [23, 22, 21, 19, 18, 17] (by decide +kernel) rfl (keepF_dep [23, 22, 14, 13, 12, 11, 10] (by decide +kernel) rfl keepF_nil))), ?_⟩
      refine G_eg (t := 42) 29 rfl (by decide +kernel) h rfl rfl (fun c h => N_cl Try.func14 rfl nn14 (fun w Q h => s14 _ w Q h) h c) ?_
      intro v w h
      refine ⟨keepF_dep [23, 22, 21] (by decide +kernel) rfl (keepF_dep [23, 22, 21, 19] (by decide +kernel) rfl (keepF_dep [23, 22, 21, 19, 18, 17] (by decide +kernel) rfl (keepF_dep [23, 22, 14, 13, 12, 11, 10] (by decide +kernel) rfl keepF_nil))), ?_⟩
      refine G_pg (t := 42) 30 rfl (by decide +kernel) h rfl rfl (fun h => Y_lnl is22 h) ?_
      intro v h
      refine G_pg (t := 42) 31 rfl (by decide +kernel) h rfl rfl (fun h => Y_eqi h) ?_
      intro v h
      refine G_p 32 rfl (by decide +kernel) (Y_pk h) ?_
      intro v h
      refine G_p 33 rfl (by decide +kernel) (Y_as h) ?_
      intro v h
      refine G_done (by decide +kernel) ?_
      refine E_n ?_
      refine C_ret ?_
      show bodyPost Try.prog Try.f8 (Rt Q) .ret _ _
      exact post_tmps (ts := [0]) (.inr rfl) rfl h

/- factotum/factotumlaw31.early -/
def f9 (t0 : Value) : M :=
  lnl t0 fun t5 =>
  mnm t5 (.int .i64 80) fun t6 =>
  sll 1 t0 none (some t6) fun t7 =>
  rt t7
theorem s9 (t0 : Value) (w : World) (Q : Value → World → Prop) (h : f9 t0 w Q) : Calls Try.prog 9 #[t0] w (Rt Q) := by
  refine calls_of (l := [t0]) Try.func9 rfl Try.ntmps9 (Nat.le_of_ble_eq_true rfl) ?_
  unfold f9 at h
  refine wp_seq ?_
  refine L_region ?_
  refine L_as ?_
  refine L_nil ?_
  refine E_n ?_
  refine wp_seq ?_
  refine L_region ?_
  refine L_mv ?_
  refine L_mv ?_
  refine L_u (P_lnl is22 h) ?_
  intro v w h
  refine L_u (P_mnm (t := 0) h) ?_
  intro v w h
  refine L_u (P_sll se22 h) ?_
  intro v w h
  refine L_as ?_
  refine L_nil ?_
  refine E_n ?_
  refine C_ret ?_
  show bodyPost Try.prog Try.f9 (Rt Q) .ret _ _
  exact post_tmps (ts := [2]) (.inr rfl) rfl h

/- factotum/factotumref02.Same -/
def f11_b2 (j1 : M) (self2 : Value → Value → Value → M) (t0_1 t1_1 t5 : Value) : M :=
  lnl t0_1 fun t13 =>
  lt .i64 t5 t13 fun t14 =>
  cnd t14 (
    dr <|
    idv t0_1 fun t17 =>
    idv t5 fun t18 =>
    ia 3 t17 t18 fun t19 =>
    ldn 3 t19 fun t20 =>
    idv t1_1 fun t21 =>
    idv t5 fun t22 =>
    ia 3 t21 t22 fun t23 =>
    ldn 3 t23 fun t24 =>
    smr Try.prog (do eqGuard .neq 31 (.tmp 20) (.tmp 24) t20 t24; binOp .neq 31 t20 t24) fun t25 =>
    cnd t25 (
      rt (.bool false)
      ) (
      ad .i64 t5 (.int .i64 1) fun t16 =>
      self2 t0_1 t1_1 t16
      )
    ) (
    j1
    )
def f11_j1 : M :=
  rt (.bool true)
def f11 (t0 t1 : Value) : M :=
  lnl t0 fun t7 =>
  lnl t1 fun t9 =>
  nei .i64 t7 t9 fun t10 =>
  cnd t10 (
    rt (.bool false)
    ) (
    jn (fun (j1 : M) =>
      lo (fun _ _ _ => bot) (f11_b2 j1) (fun l => l t0 t1 (.int .i64 0))
      ) (f11_j1)
    )
theorem s11 (t0 t1 : Value) (w : World) (Q : Value → World → Prop) (h : f11 t0 t1 w Q) : Calls Try.prog 11 #[t0, t1] w (Rt Q) := by
  refine calls_of (l := [t0, t1]) Try.func11 rfl Try.ntmps11 (Nat.le_of_ble_eq_true rfl) ?_
  unfold f11 at h
  refine wp_seq ?_
  refine L_region ?_
  refine L_as ?_
  refine L_nil ?_
  refine E_n ?_
  refine wp_seq ?_
  refine wp_seq ?_
  refine L_region ?_
  refine L_mv ?_
  refine L_u (P_lnl is32 h) ?_
  intro v w h
  refine L_mv ?_
  refine L_u (P_lnl is32 h) ?_
  intro v w h
  refine L_u (P_nei h) ?_
  intro v w h
  refine L_nil ?_
  refine E_n ?_
  refine C_cnd h (fun h => ?_) (fun h => ?_)
  · refine wp_seq ?_
    refine L_region ?_
    refine L_as ?_
    refine L_nil ?_
    refine E_n ?_
    refine C_ret ?_
    show bodyPost Try.prog Try.f11 (Rt Q) .ret _ _
    exact post_tmps (ts := [4]) (.inr rfl) rfl h
  · refine C_skip ?_
    refine E_n ?_
    refine wp_seq ?_
    refine wp_seq ?_
    refine L_region ?_
    refine L_as ?_
    refine L_nil ?_
    refine E_n ?_
    refine C_join (fun (k : M) (ρ : Nat → Value) => k) h (fun j1 J1 h => ?_) (fun ρ w h => ?_)
    · refine C_blk ?_
      refine C_lo (fun (l : Value → Value → Value → M) (ρ : Nat → Value) => l (ρ 0) (ρ 1) (ρ 5)) h (fun ρ w h => h) (fun nx self2 L2 ρ w h => ?_)
      unfold f11_b2 at h
      refine wp_seq ?_
      refine wp_seq ?_
      refine L_region ?_
      refine L_mv ?_
      refine L_mv ?_
      refine L_u (P_lnl is32 h) ?_
      intro v w h
      refine L_u (P_lt h) ?_
      intro v w h
      refine L_nil ?_
      refine E_n ?_
      refine C_cnd h (fun h => ?_) (fun h => ?_)
      · refine C_skip ?_
        refine E_n ?_
        refine wp_seq ?_
        refine C_blk ?_
        refine wp_seq ?_
        refine D_region (by decide +kernel) 9 rfl ?_
        replace h := dr_e h
        refine G_p 0 rfl (by decide +kernel) (Y_mv h) ?_
        intro v h
        refine G_p 1 rfl (by decide +kernel) (Y_mv h) ?_
        intro v h
        refine G_p 2 rfl (by decide +kernel) (Y_ia se32 h) ?_
        intro v h
        refine G_r _ 3 rfl (by decide +kernel) (R_ldn ag31 h) ?_
        intro v h
        refine G_p 4 rfl (by decide +kernel) (Y_mv h) ?_
        intro v h
        refine G_p 5 rfl (by decide +kernel) (Y_mv h) ?_
        intro v h
        refine G_p 6 rfl (by decide +kernel) (Y_ia se32 h) ?_
        intro v h
        refine G_r _ 7 rfl (by decide +kernel) (R_ldn ag31 h) ?_
        intro v h
        refine G_r _ 8 rfl (by decide +kernel) (R_sm rfl h) ?_
        intro v h
        refine G_done (by decide +kernel) ?_
        refine E_n ?_
        refine C_cnd h (fun h => ?_) (fun h => ?_)
        · refine wp_seq ?_
          refine L_region ?_
          refine L_as ?_
          refine L_nil ?_
          refine E_n ?_
          refine C_ret ?_
          show bodyPost Try.prog Try.f11 (Rt Q) .ret _ _
          exact post_tmps (ts := [4]) (.inr rfl) rfl h
        · refine C_skip ?_
          refine B_n ?_
          refine E_n ?_
          refine L_region ?_
          refine L_mv ?_
          refine L_u (P_ad h) ?_
          intro v w h
          refine L_as ?_
          refine L_nil ?_
          refine E_n ?_
          exact L2 _ _ h
      · refine C_exit ?_
        refine E_x ?_
        refine E_x ?_
        refine B_x ?_
        exact J1 _ _ h
    · unfold f11_j1 at h
      refine E_n ?_
      refine wp_seq ?_
      refine L_region ?_
      refine L_as ?_
      refine L_nil ?_
      refine E_n ?_
      refine C_ret ?_
      show bodyPost Try.prog Try.f11 (Rt Q) .ret _ _
      exact post_tmps (ts := [4]) (.inr rfl) rfl h

/- factotum/factotumlaw31.RelateJoin -/
def f3_j5 (self4 : Value → Value → Value → Value → Value → Value → Value → M) (t0_3 t1_3 t5_3 t7_2 t9_2 t10_2 t11_1 : Value) : M :=
  ad .i64 t11_1 (.int .i64 1) fun t44 =>
  self4 t0_3 t1_3 t5_3 t7_2 t9_2 t10_2 t44
def f3_b4 (j3 : Value → Value → Value → Value → Value → Value → M) (self4 : Value → Value → Value → Value → Value → Value → Value → M) (t0_2 t1_2 t5_2 t7_1 t9_1 t10_1 t11 : Value) : M :=
  lnl t1_2 fun t41 =>
  lt .i64 t11 t41 fun t42 =>
  cnd t42 (
    dr <|
    idv t0_2 fun t45 =>
    idv t10_1 fun t46 =>
    ia 1 t45 t46 fun t47 =>
    ld t47 fun t48 =>
    iaa 2 1 t5_2 (.int .i64 0) fun t49 =>
    ld t49 fun t50 =>
    ia 3 t48 t50 fun t51 =>
    ldn 3 t51 fun t52 =>
    idv t1_2 fun t53 =>
    idv t11 fun t54 =>
    ia 1 t53 t54 fun t55 =>
    ld t55 fun t56 =>
    iaa 2 1 t5_2 (.int .i64 1) fun t57 =>
    ld t57 fun t58 =>
    ia 3 t56 t58 fun t59 =>
    ldn 3 t59 fun t60 =>
    smr Try.prog (do eqGuard .eql 31 (.tmp 52) (.tmp 60) t52 t60; binOp .eql 31 t52 t60) fun t61 =>
    jn (fun (j5 : Value → Value → Value → Value → Value → Value → Value → M) =>
      cnd t61 (
        dr <|
        idv t9_1 fun t62 =>
        idv t7_1 fun t63 =>
        lnl t63 fun t64 =>
        ge .i64 t62 t64 fun t65 =>
        idv t65 fun t66 =>
        gd t66 false (idv t7_1) fun t67 =>
        gd t66 false (idv t9_1) fun t68 =>
        gd t66 false (ia 1 t67 t68) fun t69 =>
        gd t66 false (ld t69) fun t70 =>
        gd t66 false (lnl t70) fun t71 =>
        gd t66 false (idv t0_2) fun t72 =>
        gd t66 false (idv t10_1) fun t73 =>
        gd t66 false (ia 1 t72 t73) fun t74 =>
        gd t66 false (ld t74) fun t75 =>
        gd t66 false (lnl t75) fun t76 =>
        gd t66 false (idv t1_2) fun t77 =>
        gd t66 false (idv t11) fun t78 =>
        gd t66 false (ia 1 t77 t78) fun t79 =>
        gd t66 false (ld t79) fun t80 =>
        gd t66 false (lnl t80) fun t81 =>
        gd t66 false (ad .i64 t76 t81) fun t82 =>
        gd t66 false (nei .i64 t71 t82) fun t83 =>
        pk t66 (.bool true) t83 fun t84 =>
        idv t84 fun t85 =>
        gd t85 false (idv t7_1) fun t86 =>
        gd t85 false (idv t9_1) fun t87 =>
        gd t85 false (ia 1 t86 t87) fun t88 =>
        gd t85 false (ld t88) fun t89 =>
        gd t85 false (idv t0_2) fun t90 =>
        gd t85 false (idv t10_1) fun t91 =>
        gd t85 false (ia 1 t90 t91) fun t92 =>
        gd t85 false (ld t92) fun t93 =>
        gd t85 false (lnl t93) fun t94 =>
        gd t85 false (sll 3 t89 none (some t94)) fun t95 =>
        gd t85 false (idv t0_2) fun t96 =>
        gd t85 false (idv t10_1) fun t97 =>
        gd t85 false (ia 1 t96 t97) fun t98 =>
        gd t85 false (ld t98) fun t99 =>
        gd t85 false (cl (f11 t95 t99)) fun t100 =>
        gd t85 false (nt t100) fun t101 =>
        pk t85 (.bool true) t101 fun t102 =>
        idv t102 fun t103 =>
        gd t103 false (idv t7_1) fun t104 =>
        gd t103 false (idv t9_1) fun t105 =>
        gd t103 false (ia 1 t104 t105) fun t106 =>
        gd t103 false (ld t106) fun t107 =>
        gd t103 false (idv t0_2) fun t108 =>
        gd t103 false (idv t10_1) fun t109 =>
        gd t103 false (ia 1 t108 t109) fun t110 =>
        gd t103 false (ld t110) fun t111 =>
        gd t103 false (lnl t111) fun t112 =>
        gd t103 false (sll 3 t107 (some t112) none) fun t113 =>
        gd t103 false (idv t1_2) fun t114 =>
        gd t103 false (idv t11) fun t115 =>
        gd t103 false (ia 1 t114 t115) fun t116 =>
        gd t103 false (ld t116) fun t117 =>
        gd t103 false (cl (f11 t113 t117)) fun t118 =>
        gd t103 false (nt t118) fun t119 =>
        pk t103 (.bool true) t119 fun t120 =>
        cnd t120 (
          rt (.bool false)
          ) (
          ad .i64 t9_1 (.int .i64 1) fun t122 =>
          j5 t0_2 t1_2 t5_2 t7_1 t122 t10_1 t11
          )
        ) (
        j5 t0_2 t1_2 t5_2 t7_1 t9_1 t10_1 t11
        )
      ) (f3_j5 self4)
    ) (
    j3 t0_2 t1_2 t5_2 t7_1 t9_1 t10_1
    )
def f3_j3 (self2 : Value → Value → Value → Value → Value → Value → M) (t0_4 t1_4 t5_4 t7_3 t9_3 t10_3 : Value) : M :=
  ad .i64 t10_3 (.int .i64 1) fun t38 =>
  self2 t0_4 t1_4 t5_4 t7_3 t9_3 t38
def f3_b2 (j1 : Value → Value → M) (self2 : Value → Value → Value → Value → Value → Value → M) (t0_1 t1_1 t5_1 t7 t9 t10 : Value) : M :=
  lnl t0_1 fun t35 =>
  lt .i64 t10 t35 fun t36 =>
  cnd t36 (
    jn (fun (j3 : Value → Value → Value → Value → Value → Value → M) =>
      lo (fun _ _ _ _ _ _ _ => bot) (f3_b4 j3) (fun l => l t0_1 t1_1 t5_1 t7 t9 t10 (.int .i64 0))
      ) (f3_j3 self2)
    ) (
    j1 t7 t9
    )
def f3_j1 (t7_4 t9_4 : Value) : M :=
  lnl t7_4 fun t125 =>
  eqi .i64 t9_4 t125 fun t126 =>
  rt t126
def f3 (t0 t1 t2 : Value) : M :=
  bx 23 t2 fun t5 =>
  cl (f8) fun t12 =>
  nt t12 fun t13 =>
  cnd t13 (
    rt (.bool false)
    ) (
    cl (f9 t0) fun t15 =>
    cl (f9 t1) fun t17 =>
    iaa 2 1 t5 (.int .i64 0) fun t21 =>
    ld t21 fun t22 =>
    iaa 2 1 t5 (.int .i64 1) fun t23 =>
    ld t23 fun t24 =>
    cl (f10 t15 t17 t22 t24) fun t25 =>
    ex 0 t25 fun t26 =>
    ex 1 t25 fun t27 =>
    nei .i64 t27 (.int .i64 0) fun t29 =>
    cnd t29 (
      lnl t26 fun t31 =>
      eqi .i64 t31 (.int .i64 0) fun t32 =>
      rt t32
      ) (
      jn (fun (j1 : Value → Value → M) =>
        lo (fun _ _ _ _ _ _ => bot) (f3_b2 j1) (fun l => l t15 t17 t5 t26 (.int .i64 0) (.int .i64 0))
        ) (f3_j1)
      )
    )
theorem s3 (t0 t1 t2 : Value) (w : World) (Q : Value → World → Prop) (h : f3 t0 t1 t2 w Q) : Calls Try.prog 3 #[t0, t1, t2] w (Rt Q) := by
  refine calls_of (l := [t0, t1, t2]) Try.func3 rfl Try.ntmps3 (Nat.le_of_ble_eq_true rfl) ?_
  unfold f3 at h
  refine wp_seq ?_
  refine L_region ?_
  refine L_u (P_bx h) ?_
  intro v w h
  refine L_as ?_
  refine L_nil ?_
  refine E_n ?_
  refine wp_seq ?_
  refine wp_seq ?_
  refine L_region ?_
  refine L_u (N_cl Try.func8 rfl nn8 (fun w Q h => s8 w Q h) h) ?_
  intro v w h
  refine L_u (P_nt h) ?_
  intro v w h
  refine L_nil ?_
  refine E_n ?_
  refine C_cnd h (fun h => ?_) (fun h => ?_)
  · refine wp_seq ?_
    refine L_region ?_
    refine L_as ?_
    refine L_nil ?_
    refine E_n ?_
    refine C_ret ?_
    show bodyPost Try.prog Try.f3 (Rt Q) .ret _ _
    exact post_tmps (ts := [6]) (.inr rfl) rfl h
  · refine C_skip ?_
    refine E_n ?_
    refine wp_seq ?_
    refine L_region ?_
    refine L_mv ?_
    refine L_u (N_cl Try.func9 rfl nn9 (fun w Q h => s9 _ w Q h) h) ?_
    intro v w h
    refine L_mv ?_
    refine L_u (N_cl Try.func9 rfl nn9 (fun w Q h => s9 _ w Q h) h) ?_
    intro v w h
    refine L_as ?_
    refine L_as ?_
    refine L_nil ?_
    refine E_n ?_
    refine wp_seq ?_
    refine L_region ?_
    refine L_mv ?_
    refine L_mv ?_
    refine L_u (P_iaa ae23 h) ?_
    intro v w h
    refine L_u (P_ld sc3 h) ?_
    intro v w h
    refine L_u (P_iaa ae23 h) ?_
    intro v w h
    refine L_u (P_ld sc3 h) ?_
    intro v w h
    refine L_u (N_cl Try.func10 rfl nn10 (fun w Q h => s10 _ _ _ _ w Q h) h) ?_
    intro v w h
    refine L_mv ?_
    refine L_u (P_ex h) ?_
    intro v w h
    refine L_u (P_ex h) ?_
    intro v w h
    refine L_as ?_
    refine L_as ?_
    refine L_nil ?_
    refine E_n ?_
    refine wp_seq ?_
    refine wp_seq ?_
    refine L_region ?_
    refine L_mv ?_
    refine L_u (P_nei h) ?_
    intro v w h
    refine L_nil ?_
    refine E_n ?_
    refine C_cnd h (fun h => ?_) (fun h => ?_)
    · refine wp_seq ?_
      refine L_region ?_
      refine L_mv ?_
      refine L_u (P_lnl is22 h) ?_
      intro v w h
      refine L_u (P_eqi h) ?_
      intro v w h
      refine L_as ?_
      refine L_nil ?_
      refine E_n ?_
      refine C_ret ?_
      show bodyPost Try.prog Try.f3 (Rt Q) .ret _ _
      exact post_tmps (ts := [6]) (.inr rfl) rfl h
    · refine C_skip ?_
      refine E_n ?_
      refine wp_seq ?_
      refine L_region ?_
      refine L_as ?_
      refine L_nil ?_
      refine E_n ?_
      refine wp_seq ?_
      refine wp_seq ?_
      refine L_region ?_
      refine L_as ?_
      refine L_nil ?_
      refine E_n ?_
      refine C_join (fun (k : Value → Value → M) (ρ : Nat → Value) => k (ρ 7) (ρ 9)) h (fun j1 J1 h => ?_) (fun ρ w h => ?_)
      · refine C_blk ?_
        refine C_lo (fun (l : Value → Value → Value → Value → Value → Value → M) (ρ : Nat → Value) => l (ρ 0) (ρ 1) (ρ 5) (ρ 7) (ρ 9) (ρ 10)) h (fun ρ w h => h) (fun nx self2 L2 ρ w h => ?_)
        unfold f3_b2 at h
        refine wp_seq ?_
        refine wp_seq ?_
        refine L_region ?_
        refine L_mv ?_
        refine L_mv ?_
        refine L_u (P_lnl is22 h) ?_
        intro v w h
        refine L_u (P_lt h) ?_
        intro v w h
        refine L_nil ?_
        refine E_n ?_
        refine C_cnd h (fun h => ?_) (fun h => ?_)
        · refine C_skip ?_
          refine E_n ?_
          refine wp_seq ?_
          refine C_blk ?_
          refine wp_seq ?_
          refine L_region ?_
          refine L_as ?_
          refine L_nil ?_
          refine E_n ?_
          refine C_join (fun (k : Value → Value → Value → Value → Value → Value → M) (ρ : Nat → Value) => k (ρ 0) (ρ 1) (ρ 5) (ρ 7) (ρ 9) (ρ 10)) h (fun j3 J3 h => ?_) (fun ρ w h => ?_)
          · refine C_blk ?_
            refine C_lo (fun (l : Value → Value → Value → Value → Value → Value → Value → M) (ρ : Nat → Value) => l (ρ 0) (ρ 1) (ρ 5) (ρ 7) (ρ 9) (ρ 10) (ρ 11)) h (fun ρ w h => h) (fun nx self4 L4 ρ w h => ?_)
            unfold f3_b4 at h
            refine wp_seq ?_
            refine wp_seq ?_
            refine L_region ?_
            refine L_mv ?_
            refine L_mv ?_
            refine L_u (P_lnl is22 h) ?_
            intro v w h
            refine L_u (P_lt h) ?_
            intro v w h
            refine L_nil ?_
            refine E_n ?_
            refine C_cnd h (fun h => ?_) (fun h => ?_)
            · refine C_skip ?_
              refine E_n ?_
              refine wp_seq ?_
              refine C_blk ?_
              refine wp_seq ?_
              refine D_region (by decide +kernel) 17 rfl ?_
              replace h := dr_e h
              refine G_p 0 rfl (by decide +kernel) (Y_mv h) ?_
              intro v h
              refine G_p 1 rfl (by decide +kernel) (Y_mv h) ?_
              intro v h
              refine G_p 2 rfl (by decide +kernel) (Y_ia se22 h) ?_
              intro v h
              refine G_r _ 3 rfl (by decide +kernel) (R_ld sc33 h) ?_
              intro v h
              refine G_p 4 rfl (by decide +kernel) (Y_iaa ae23 h) ?_
              intro v h
              refine G_r _ 5 rfl (by decide +kernel) (R_ld sc3 h) ?_
              intro v h
              refine G_p 6 rfl (by decide +kernel) (Y_ia se33 h) ?_
              intro v h
              refine G_r _ 7 rfl (by decide +kernel) (R_ldn ag31 h) ?_
              intro v h
              refine G_p 8 rfl (by decide +kernel) (Y_mv h) ?_
              intro v h
              refine G_p 9 rfl (by decide +kernel) (Y_mv h) ?_
              intro v h
              refine G_p 10 rfl (by decide +kernel) (Y_ia se22 h) ?_
              intro v h
              refine G_r _ 11 rfl (by decide +kernel) (R_ld sc33 h) ?_
              intro v h
              refine G_p 12 rfl (by decide +kernel) (Y_iaa ae23 h) ?_
              intro v h
              refine G_r _ 13 rfl (by decide +kernel) (R_ld sc3 h) ?_
              intro v h
              refine G_p 14 rfl (by decide +kernel) (Y_ia se33 h) ?_
              intro v h
              refine G_r _ 15 rfl (by decide +kernel) (R_ldn ag31 h) ?_
              intro v h
              refine G_r _ 16 rfl (by decide +kernel) (R_sm rfl h) ?_
              intro v h
              refine G_done (by decide +kernel) ?_
              refine E_n ?_
              refine C_join (fun (k : Value → Value → Value → Value → Value → Value → Value → M) (ρ : Nat → Value) => k (ρ 0) (ρ 1) (ρ 5) (ρ 7) (ρ 9) (ρ 10) (ρ 11)) h (fun j5 J5 h => ?_) (fun ρ w h => ?_)
              · refine C_cnd h (fun h => ?_) (fun h => ?_)
                · refine wp_seq ?_
                  refine wp_seq ?_
                  refine D_region (by decide +kernel) 59 rfl ?_
                  replace h := dr_e h
                  refine G_p 0 rfl (by decide +kernel) (Y_mv h) ?_
                  intro v h
                  refine G_p 1 rfl (by decide +kernel) (Y_mv h) ?_
                  intro v h
                  refine G_p 2 rfl (by decide +kernel) (Y_lnl is22 h) ?_
                  intro v h
                  refine G_p 3 rfl (by decide +kernel) (Y_ge h) ?_
                  intro v h
                  refine G_p 4 rfl (by decide +kernel) (Y_mv h) ?_
                  intro v h
                  refine G_pg (t := 66) 5 rfl (by decide +kernel) h rfl rfl (fun h => Y_mv h) ?_
                  intro v h
                  refine G_pg (t := 66) 6 rfl (by decide +kernel) h rfl rfl (fun h => Y_mv h) ?_
                  intro v h
                  refine G_pg (t := 66) 7 rfl (by decide +kernel) h rfl rfl (fun h => Y_ia se22 h) ?_
                  intro v h
                  refine G_rg (t := 66) _ 8 rfl (by decide +kernel) h rfl rfl (fun h => R_ld sc33 h) ?_
                  intro v h
                  refine G_pg (t := 66) 9 rfl (by decide +kernel) h rfl rfl (fun h => Y_lnl is33 h) ?_
                  intro v h
                  refine G_pg (t := 66) 10 rfl (by decide +kernel) h rfl rfl (fun h => Y_mv h) ?_
                  intro v h
                  refine G_pg (t := 66) 11 rfl (by decide +kernel) h rfl rfl (fun h => Y_mv h) ?_
                  intro v h
                  refine G_pg (t := 66) 12 rfl (by decide +kernel) h rfl rfl (fun h => Y_ia se22 h) ?_
                  intro v h
                  refine G_rg (t := 66) _ 13 rfl (by decide +kernel) h rfl rfl (fun h => R_ld sc33 h) ?_
                  intro v h
                  refine G_pg (t := 66) 14 rfl (by decide +kernel) h rfl rfl (fun h => Y_lnl is33 h) ?_
                  intro v h
                  refine G_pg (t := 66) 15 rfl (by decide +kernel) h rfl rfl (fun h => Y_mv h) ?_
                  intro v h
                  refine G_pg (t := 66) 16 rfl (by decide +kernel) h rfl rfl (fun h => Y_mv h) ?_
                  intro v h
                  refine G_pg (t := 66) 17 rfl (by decide +kernel) h rfl rfl (fun h => Y_ia se22 h) ?_
                  intro v h
                  refine G_rg (t := 66) _ 18 rfl (by decide +kernel) h rfl rfl (fun h => R_ld sc33 h) ?_
                  intro v h
                  refine G_pg (t := 66) 19 rfl (by decide +kernel) h rfl rfl (fun h => Y_lnl is33 h) ?_
                  intro v h
                  refine G_pg (t := 66) 20 rfl (by decide +kernel) h rfl rfl (fun h => Y_ad h) ?_
                  intro v h
                  refine G_pg (t := 66) 21 rfl (by decide +kernel) h rfl rfl (fun h => Y_nei h) ?_
                  intro v h
                  refine G_p 22 rfl (by decide +kernel) (Y_pk h) ?_
                  intro v h
                  refine G_p 23 rfl (by decide +kernel) (Y_mv h) ?_
                  intro v h
                  refine G_pg (t := 85) 24 rfl (by decide +kernel) h rfl rfl (fun h => Y_mv h) ?_
                  intro v h
                  refine G_pg (t := 85) 25 rfl (by decide +kernel) h rfl rfl (fun h => Y_mv h) ?_
                  intro v h
                  refine G_pg (t := 85) 26 rfl (by decide +kernel) h rfl rfl (fun h => Y_ia se22 h) ?_
                  intro v h
                  refine G_rg (t := 85) _ 27 rfl (by decide +kernel) h rfl rfl (fun h => R_ld sc33 h) ?_
                  intro v h
                  refine G_pg (t := 85) 28 rfl (by decide +kernel) h rfl rfl (fun h => Y_mv h) ?_
                  intro v h
                  refine G_pg (t := 85) 29 rfl (by decide +kernel) h rfl rfl (fun h => Y_mv h) ?_
                  intro v h
                  refine G_pg (t := 85) 30 rfl (by decide +kernel) h rfl rfl (fun h => Y_ia se22 h) ?_
                  intro v h
                  refine G_rg (t := 85) _ 31 rfl (by decide +kernel) h rfl rfl (fun h => R_ld sc33 h) ?_
                  intro v h
                  refine G_pg (t := 85) 32 rfl (by decide +kernel) h rfl rfl (fun h => Y_lnl is33 h) ?_
                  intro v h
                  refine G_pg (t := 85) 33 rfl (by decide +kernel) h rfl rfl (fun h => Y_sll se33 h) ?_
                  intro v h
                  refine G_pg (t := 85) 34 rfl (by decide +kernel) h rfl rfl (fun h => Y_mv h) ?_
                  intro v h
                  refine G_pg (t := 85) 35 rfl (by decide +kernel) h rfl rfl (fun h => Y_mv h) ?_
                  intro v h
                  refine G_pg (t := 85) 36 rfl (by decide +kernel) h rfl rfl (fun h => Y_ia se22 h) ?_
                  intro v h
                  refine G_rg (t := 85) _ 37 rfl (by decide +kernel) h rfl rfl (fun h => R_ld sc33 h) ?_
                  intro v h
                  refine G_eg (t := 85) 38 rfl (by decide +kernel) h rfl rfl (fun c h => N_cl Try.func11 rfl nn11 (fun w Q h => s11 _ _ w Q h) h c) ?_
                  intro v w h
                  refine ⟨keepF_dep [37] (by decide +kernel) rfl (keepF_dep [33, 32, 31] (by decide +kernel) rfl (keepF_dep [33, 27] (by decide +kernel) rfl (keepF_dep [23, 22, 21, 20, 19, 18] (by decide +kernel) rfl (keepF_dep [23, 22, 21, 20, 14, 13] (by decide +kernel) rfl (keepF_dep [23, 22, 21, 9, 8] (by decide +kernel) rfl keepF_nil))))), ?_⟩
                  refine G_pg (t := 85) 39 rfl (by decide +kernel) h rfl rfl (fun h => Y_nt h) ?_
                  intro v h
                  refine G_p 40 rfl (by decide +kernel) (Y_pk h) ?_
                  intro v h
                  refine G_p 41 rfl (by decide +kernel) (Y_mv h) ?_
                  intro v h
                  refine G_pg (t := 103) 42 rfl (by decide +kernel) h rfl rfl (fun h => Y_mv h) ?_
                  intro v h
                  refine G_pg (t := 103) 43 rfl (by decide +kernel) h rfl rfl (fun h => Y_mv h) ?_
                  intro v h
                  refine G_pg (t := 103) 44 rfl (by decide +kernel) h rfl rfl (fun h => Y_ia se22 h) ?_
                  intro v h
                  refine G_rg (t := 103) _ 45 rfl (by decide +kernel) h rfl rfl (fun h => R_ld sc33 h) ?_
                  intro v h
                  refine G_pg (t := 103) 46 rfl (by decide +kernel) h rfl rfl (fun h => Y_mv h) ?_
                  intro v h
                  refine G_pg (t := 103) 47 rfl (by decide +kernel) h rfl rfl (fun h => Y_mv h) ?_
                  intro v h
                  refine G_pg (t := 103) 48 rfl (by decide +kernel) h rfl rfl (fun h => Y_ia se22 h) ?_
                  intro v h
                  refine G_rg (t := 103) _ 49 rfl (by decide +kernel) h rfl rfl (fun h => R_ld sc33 h) ?_
                  intro v h
                  refine G_pg (t := 103) 50 rfl (by decide +kernel) h rfl rfl (fun h => Y_lnl is33 h) ?_
                  intro v h
                  refine G_pg (t := 103) 51 rfl (by decide +kernel) h rfl rfl (fun h => Y_sll se33 h) ?_
                  intro v h
                  refine G_pg (t := 103) 52 rfl (by decide +kernel) h rfl rfl (fun h => Y_mv h) ?_
                  intro v h
                  refine G_pg (t := 103) 53 rfl (by decide +kernel) h rfl rfl (fun h => Y_mv h) ?_
                  intro v h
                  refine G_pg (t := 103) 54 rfl (by decide +kernel) h rfl rfl (fun h => Y_ia se22 h) ?_
                  intro v h
                  refine G_rg (t := 103) _ 55 rfl (by decide +kernel) h rfl rfl (fun h => R_ld sc33 h) ?_
                  intro v h
                  refine G_eg (t := 103) 56 rfl (by decide +kernel) h rfl rfl (fun c h => N_cl Try.func11 rfl nn11 (fun w Q h => s11 _ _ w Q h) h c) ?_
                  intro v w h
                  refine ⟨keepF_dep [55] (by decide +kernel) rfl (keepF_dep [51, 50, 49] (by decide +kernel) rfl (keepF_dep [51, 45] (by decide +kernel) rfl (keepF_dep [41, 38, 37] (by decide +kernel) rfl (keepF_dep [41, 38, 33, 32, 31] (by decide +kernel) rfl (keepF_dep [41, 38, 33, 27] (by decide +kernel) rfl (keepF_dep [41, 40, 23, 22, 21, 20, 19, 18] (by decide +kernel) rfl (keepF_dep [41, 40, 23, 22, 21, 20, 14, 13] (by decide +kernel) rfl (keepF_dep [41, 40, 23, 22, 21, 9, 8] (by decide +kernel) rfl keepF_nil)))))))), ?_⟩
                  refine G_pg (t := 103) 57 rfl (by decide +kernel) h rfl rfl (fun h => Y_nt h) ?_
                  intro v h
                  refine G_p 58 rfl (by decide +kernel) (Y_pk h) ?_
                  intro v h
                  refine G_done (by decide +kernel) ?_
                  refine E_n ?_
                  refine C_cnd h (fun h => ?_) (fun h => ?_)
                  · refine wp_seq ?_
                    refine L_region ?_
                    refine L_as ?_
                    refine L_nil ?_
                    refine E_n ?_
                    refine C_ret ?_
                    show bodyPost Try.prog Try.f3 (Rt Q) .ret _ _
                    exact post_tmps (ts := [6]) (.inr rfl) rfl h
                  · refine C_skip ?_
                    refine E_n ?_
                    refine L_region ?_
                    refine L_mv ?_
                    refine L_u (P_ad h) ?_
                    intro v w h
                    refine L_as ?_
                    refine L_nil ?_
                    exact J5 _ _ h
                · refine C_skip ?_
                  exact J5 _ _ h
              · unfold f3_j5 at h
                refine B_n ?_
                refine E_n ?_
                refine L_region ?_
                refine L_mv ?_
                refine L_u (P_ad h) ?_
                intro v w h
                refine L_as ?_
                refine L_nil ?_
                refine E_n ?_
                exact L4 _ _ h
            · refine C_exit ?_
              refine E_x ?_
              refine E_x ?_
              refine B_x ?_
              exact J3 _ _ h
          · unfold f3_j3 at h
            refine B_n ?_
            refine E_n ?_
            refine L_region ?_
            refine L_mv ?_
            refine L_u (P_ad h) ?_
            intro v w h
            refine L_as ?_
            refine L_nil ?_
            refine E_n ?_
            exact L2 _ _ h
        · refine C_exit ?_
          refine E_x ?_
          refine E_x ?_
          refine B_x ?_
          exact J1 _ _ h
      · unfold f3_j1 at h
        refine E_n ?_
        refine wp_seq ?_
        refine L_region ?_
        refine L_mv ?_
        refine L_mv ?_
        refine L_u (P_lnl is22 h) ?_
        intro v w h
        refine L_u (P_eqi h) ?_
        intro v w h
        refine L_as ?_
        refine L_nil ?_
        refine E_n ?_
        refine C_ret ?_
        show bodyPost Try.prog Try.f3 (Rt Q) .ret _ _
        exact post_tmps (ts := [6]) (.inr rfl) rfl h

/- factotum/factotumref31.have -/
def f28_b2 (j1 : M) (self2 : Value → Value → Value → M) (t0_1 t1_1 t5 : Value) : M :=
  lnl t0_1 fun t8 =>
  lt .i64 t5 t8 fun t9 =>
  cnd t9 (
    lt .i64 t1_1 (.int .i64 0) fun t13 =>
    gd t13 false (idv t1_1) fun t15 =>
    gd t13 false (idv t0_1) fun t16 =>
    gd t13 false (idv t5) fun t17 =>
    gd t13 false (ia 1 t16 t17) fun t18 =>
    gd t13 false (ld t18) fun t19 =>
    gd t13 false (lnl t19) fun t20 =>
    gd t13 false (ge .i64 t15 t20) fun t21 =>
    pk t13 (.bool true) t21 fun t22 =>
    cnd t22 (
      rt (.bool false)
      ) (
      ad .i64 t5 (.int .i64 1) fun t11 =>
      self2 t0_1 t1_1 t11
      )
    ) (
    j1
    )
def f28_j1 : M :=
  rt (.bool true)
def f28 (t0 t1 : Value) : M :=
  jn (fun (j1 : M) =>
    lo (fun _ _ _ => bot) (f28_b2 j1) (fun l => l t0 t1 (.int .i64 0))
    ) (f28_j1)
theorem s28 (t0 t1 : Value) (w : World) (Q : Value → World → Prop) (h : f28 t0 t1 w Q) : Calls Try.prog 28 #[t0, t1] w (Rt Q) := by
  refine calls_of (l := [t0, t1]) Try.func28 rfl Try.ntmps28 (Nat.le_of_ble_eq_true rfl) ?_
  unfold f28 at h
  refine wp_seq ?_
  refine L_region ?_
  refine L_as ?_
  refine L_nil ?_
  refine E_n ?_
  refine wp_seq ?_
  refine wp_seq ?_
  refine L_region ?_
  refine L_as ?_
  refine L_nil ?_
  refine E_n ?_
  refine C_join (fun (k : M) (ρ : Nat → Value) => k) h (fun j1 J1 h => ?_) (fun ρ w h => ?_)
  · refine C_blk ?_
    refine C_lo (fun (l : Value → Value → Value → M) (ρ : Nat → Value) => l (ρ 0) (ρ 1) (ρ 5)) h (fun ρ w h => h) (fun nx self2 L2 ρ w h => ?_)
    unfold f28_b2 at h
    refine wp_seq ?_
    refine wp_seq ?_
    refine L_region ?_
    refine L_mv ?_
    refine L_mv ?_
    refine L_u (P_lnl is22 h) ?_
    intro v w h
    refine L_u (P_lt h) ?_
    intro v w h
    refine L_nil ?_
    refine E_n ?_
    refine C_cnd h (fun h => ?_) (fun h => ?_)
    · refine C_skip ?_
      refine E_n ?_
      refine wp_seq ?_
      refine C_blk ?_
      refine wp_seq ?_
      refine L_region ?_
      refine L_mv ?_
      refine L_u (P_lt h) ?_
      intro v w h
      refine L_mv ?_
      refine L_g (t := 14) h rfl rfl (fun c h => P_mv h c) ?_
      intro v w h
      refine L_g (t := 14) h rfl rfl (fun c h => P_mv h c) ?_
      intro v w h
      refine L_g (t := 14) h rfl rfl (fun c h => P_mv h c) ?_
      intro v w h
      refine L_g (t := 14) h rfl rfl (fun c h => P_ia se22 h c) ?_
      intro v w h
      refine L_g (t := 14) h rfl rfl (fun c h => P_ld sc33 h c) ?_
      intro v w h
      refine L_g (t := 14) h rfl rfl (fun c h => P_lnl is33 h c) ?_
      intro v w h
      refine L_g (t := 14) h rfl rfl (fun c h => P_ge h c) ?_
      intro v w h
      refine L_u (P_pk h) ?_
      intro v w h
      refine L_nil ?_
      refine E_n ?_
      refine C_cnd h (fun h => ?_) (fun h => ?_)
      · refine wp_seq ?_
        refine L_region ?_
        refine L_as ?_
        refine L_nil ?_
        refine E_n ?_
        refine C_ret ?_
        show bodyPost Try.prog Try.f28 (Rt Q) .ret _ _
        exact post_tmps (ts := [4]) (.inr rfl) rfl h
      · refine C_skip ?_
        refine B_n ?_
        refine E_n ?_
        refine L_region ?_
        refine L_mv ?_
        refine L_u (P_ad h) ?_
        intro v w h
        refine L_as ?_
        refine L_nil ?_
        refine E_n ?_
        exact L2 _ _ h
    · refine C_exit ?_
      refine E_x ?_
      refine E_x ?_
      refine B_x ?_
      exact J1 _ _ h
  · unfold f28_j1 at h
    refine E_n ?_
    refine wp_seq ?_
    refine L_region ?_
    refine L_as ?_
    refine L_nil ?_
    refine E_n ?_
    refine C_ret ?_
    show bodyPost Try.prog Try.f28 (Rt Q) .ret _ _
    exact post_tmps (ts := [4]) (.inr rfl) rfl h

/- factotum/factotumref31.Join -/
def f12_j5 (self4 : Value → Value → Value → Value → Value → Value → Value → M) (t0_3 t1_3 t2_3 t3_3 t10_3 t11_2 t12_1 : Value) : M :=
  ad .i64 t12_1 (.int .i64 1) fun t34 =>
  self4 t0_3 t1_3 t2_3 t3_3 t10_3 t11_2 t34
def f12_b4 (j3 : Value → Value → Value → Value → Value → Value → M) (self4 : Value → Value → Value → Value → Value → Value → Value → M) (t0_2 t1_2 t2_2 t3_2 t10_1 t11_1 t12 : Value) : M :=
  lnl t1_2 fun t31 =>
  lt .i64 t12 t31 fun t32 =>
  cnd t32 (
    dr <|
    idv t0_2 fun t35 =>
    idv t11_1 fun t36 =>
    ia 1 t35 t36 fun t37 =>
    ld t37 fun t38 =>
    idv t2_2 fun t39 =>
    ia 3 t38 t39 fun t40 =>
    ldn 3 t40 fun t41 =>
    idv t1_2 fun t42 =>
    idv t12 fun t43 =>
    ia 1 t42 t43 fun t44 =>
    ld t44 fun t45 =>
    idv t3_2 fun t46 =>
    ia 3 t45 t46 fun t47 =>
    ldn 3 t47 fun t48 =>
    smr Try.prog (do eqGuard .eql 31 (.tmp 41) (.tmp 48) t41 t48; binOp .eql 31 t41 t48) fun t49 =>
    jn (fun (j5 : Value → Value → Value → Value → Value → Value → Value → M) =>
      cnd t49 (
        dr <|
        idv t10_1 fun t50 =>
        idv t0_2 fun t51 =>
        idv t11_1 fun t52 =>
        ia 1 t51 t52 fun t53 =>
        ld t53 fun t54 =>
        idv t1_2 fun t56 =>
        idv t12 fun t57 =>
        ia 1 t56 t57 fun t58 =>
        ld t58 fun t59 =>
        sm Try.prog (Builtin.append_ #[33, 33] 33 #[(.slice none 0 0), t54]) fun t55 =>
        kp (Kld t58 t59) <|
        sm Try.prog (Builtin.append_ #[33, 33] 33 #[t55, t59]) fun t60 =>
        sm Try.prog (Instr.buildSlice 22 1 #[(0, t60)]) fun t61 =>
        sm Try.prog (Builtin.append_ #[22, 22] 22 #[t50, t61]) fun t62 =>
        idv t62 fun t10_2 =>
        j5 t0_2 t1_2 t2_2 t3_2 t10_2 t11_1 t12
        ) (
        j5 t0_2 t1_2 t2_2 t3_2 t10_1 t11_1 t12
        )
      ) (f12_j5 self4)
    ) (
    j3 t0_2 t1_2 t2_2 t3_2 t10_1 t11_1
    )
def f12_j3 (self2 : Value → Value → Value → Value → Value → Value → M) (t0_4 t1_4 t2_4 t3_4 t10_4 t11_3 : Value) : M :=
  ad .i64 t11_3 (.int .i64 1) fun t28 =>
  self2 t0_4 t1_4 t2_4 t3_4 t10_4 t28
def f12_b2 (j1 : Value → M) (self2 : Value → Value → Value → Value → Value → Value → M) (t0_1 t1_1 t2_1 t3_1 t10 t11 : Value) : M :=
  lnl t0_1 fun t25 =>
  lt .i64 t11 t25 fun t26 =>
  cnd t26 (
    jn (fun (j3 : Value → Value → Value → Value → Value → Value → M) =>
      lo (fun _ _ _ _ _ _ _ => bot) (f12_b4 j3) (fun l => l t0_1 t1_1 t2_1 t3_1 t10 t11 (.int .i64 0))
      ) (f12_j3 self2)
    ) (
    j1 t10
    )
def f12_j1 (t10_5 : Value) : M :=
  rt (.tuple #[t10_5, (.int .i64 0)])
def f12 (t0 t1 t2 t3 : Value) : M :=
  cl (f28 t0 t2) fun t15 =>
  nt t15 fun t16 =>
  gd t16 false (idv t1) fun t18 =>
  gd t16 false (idv t3) fun t19 =>
  gd t16 false (cl (f28 t18 t19)) fun t20 =>
  gd t16 false (nt t20) fun t21 =>
  pk t16 (.bool true) t21 fun t22 =>
  cnd t22 (
    rt (.tuple #[(.slice none 0 0), (.int .i64 7)])
    ) (
    jn (fun (j1 : Value → M) =>
      lo (fun _ _ _ _ _ _ => bot) (f12_b2 j1) (fun l => l t0 t1 t2 t3 (.slice none 0 0) (.int .i64 0))
      ) (f12_j1)
    )
theorem s12 (t0 t1 t2 t3 : Value) (w : World) (Q : Value → World → Prop) (h : f12 t0 t1 t2 t3 w Q) : Calls Try.prog 12 #[t0, t1, t2, t3] w (Rt Q) := by
  refine calls_of (l := [t0, t1, t2, t3]) Try.func12 rfl Try.ntmps12 (Nat.le_of_ble_eq_true rfl) ?_
  unfold f12 at h
  refine wp_seq ?_
  refine L_region ?_
  refine L_as ?_
  refine L_as ?_
  refine L_nil ?_
  refine E_n ?_
  refine wp_seq ?_
  refine wp_seq ?_
  refine L_region ?_
  refine L_mv ?_
  refine L_mv ?_
  refine L_u (N_cl Try.func28 rfl nn28 (fun w Q h => s28 _ _ w Q h) h) ?_
  intro v w h
  refine L_u (P_nt h) ?_
  intro v w h
  refine L_mv ?_
  refine L_g (t := 17) h rfl rfl (fun c h => P_mv h c) ?_
  intro v w h
  refine L_g (t := 17) h rfl rfl (fun c h => P_mv h c) ?_
  intro v w h
  refine L_g (t := 17) h rfl rfl (fun c h => N_cl Try.func28 rfl nn28 (fun w Q h => s28 _ _ w Q h) h c) ?_
  intro v w h
  refine L_g (t := 17) h rfl rfl (fun c h => P_nt h c) ?_
  intro v w h
  refine L_u (P_pk h) ?_
  intro v w h
  refine L_nil ?_
  refine E_n ?_
  refine C_cnd h (fun h => ?_) (fun h => ?_)
  · refine wp_seq ?_
    refine L_region ?_
    refine L_as ?_
    refine L_as ?_
    refine L_nil ?_
    refine E_n ?_
    refine C_ret ?_
    show bodyPost Try.prog Try.f12 (Rt Q) .ret _ _
    exact post_tmps (ts := [8, 9]) (.inr rfl) rfl h
  · refine C_skip ?_
    refine E_n ?_
    refine wp_seq ?_
    refine L_region ?_
    refine L_as ?_
    refine L_nil ?_
    refine E_n ?_
    refine wp_seq ?_
    refine wp_seq ?_
    refine L_region ?_
    refine L_as ?_
    refine L_nil ?_
    refine E_n ?_
    refine C_join (fun (k : Value → M) (ρ : Nat → Value) => k (ρ 10)) h (fun j1 J1 h => ?_) (fun ρ w h => ?_)
    · refine C_blk ?_
      refine C_lo (fun (l : Value → Value → Value → Value → Value → Value → M) (ρ : Nat → Value) => l (ρ 0) (ρ 1) (ρ 2) (ρ 3) (ρ 10) (ρ 11)) h (fun ρ w h => h) (fun nx self2 L2 ρ w h => ?_)
      unfold f12_b2 at h
      refine wp_seq ?_
      refine wp_seq ?_
      refine L_region ?_
      refine L_mv ?_
      refine L_mv ?_
      refine L_u (P_lnl is22 h) ?_
      intro v w h
      refine L_u (P_lt h) ?_
      intro v w h
      refine L_nil ?_
      refine E_n ?_
      refine C_cnd h (fun h => ?_) (fun h => ?_)
      · refine C_skip ?_
        refine E_n ?_
        refine wp_seq ?_
        refine C_blk ?_
        refine wp_seq ?_
        refine L_region ?_
        refine L_as ?_
        refine L_nil ?_
        refine E_n ?_
        refine C_join (fun (k : Value → Value → Value → Value → Value → Value → M) (ρ : Nat → Value) => k (ρ 0) (ρ 1) (ρ 2) (ρ 3) (ρ 10) (ρ 11)) h (fun j3 J3 h => ?_) (fun ρ w h => ?_)
        · refine C_blk ?_
          refine C_lo (fun (l : Value → Value → Value → Value → Value → Value → Value → M) (ρ : Nat → Value) => l (ρ 0) (ρ 1) (ρ 2) (ρ 3) (ρ 10) (ρ 11) (ρ 12)) h (fun ρ w h => h) (fun nx self4 L4 ρ w h => ?_)
          unfold f12_b4 at h
          refine wp_seq ?_
          refine wp_seq ?_
          refine L_region ?_
          refine L_mv ?_
          refine L_mv ?_
          refine L_u (P_lnl is22 h) ?_
          intro v w h
          refine L_u (P_lt h) ?_
          intro v w h
          refine L_nil ?_
          refine E_n ?_
          refine C_cnd h (fun h => ?_) (fun h => ?_)
          · refine C_skip ?_
            refine E_n ?_
            refine wp_seq ?_
            refine C_blk ?_
            refine wp_seq ?_
            refine D_region (by decide +kernel) 15 rfl ?_
            replace h := dr_e h
            refine G_p 0 rfl (by decide +kernel) (Y_mv h) ?_
            intro v h
            refine G_p 1 rfl (by decide +kernel) (Y_mv h) ?_
            intro v h
            refine G_p 2 rfl (by decide +kernel) (Y_ia se22 h) ?_
            intro v h
            refine G_r _ 3 rfl (by decide +kernel) (R_ld sc33 h) ?_
            intro v h
            refine G_p 4 rfl (by decide +kernel) (Y_mv h) ?_
            intro v h
            refine G_p 5 rfl (by decide +kernel) (Y_ia se33 h) ?_
            intro v h
            refine G_r _ 6 rfl (by decide +kernel) (R_ldn ag31 h) ?_
            intro v h
            refine G_p 7 rfl (by decide +kernel) (Y_mv h) ?_
            intro v h
            refine G_p 8 rfl (by decide +kernel) (Y_mv h) ?_
            intro v h
            refine G_p 9 rfl (by decide +kernel) (Y_ia se22 h) ?_
            intro v h
            refine G_r _ 10 rfl (by decide +kernel) (R_ld sc33 h) ?_
            intro v h
            refine G_p 11 rfl (by decide +kernel) (Y_mv h) ?_
            intro v h
            refine G_p 12 rfl (by decide +kernel) (Y_ia se33 h) ?_
            intro v h
            refine G_r _ 13 rfl (by decide +kernel) (R_ldn ag31 h) ?_
            intro v h
            refine G_r _ 14 rfl (by decide +kernel) (R_sm rfl h) ?_
            intro v h
            refine G_done (by decide +kernel) ?_
            refine E_n ?_
            refine C_join (fun (k : Value → Value → Value → Value → Value → Value → Value → M) (ρ : Nat → Value) => k (ρ 0) (ρ 1) (ρ 2) (ρ 3) (ρ 10) (ρ 11) (ρ 12)) h (fun j5 J5 h => ?_) (fun ρ w h => ?_)
            · refine C_cnd h (fun h => ?_) (fun h => ?_)
              · refine D_region (by decide +kernel) 14 rfl ?_
                replace h := dr_e h
                refine G_p 0 rfl (by decide +kernel) (Y_mv h) ?_
                intro v h
                refine G_p 1 rfl (by decide +kernel) (Y_mv h) ?_
                intro v h
                refine G_p 2 rfl (by decide +kernel) (Y_mv h) ?_
                intro v h
                refine G_p 3 rfl (by decide +kernel) (Y_ia se22 h) ?_
                intro v h
                refine G_r _ 4 rfl (by decide +kernel) (R_ld sc33 h) ?_
                intro v h
                refine G_p 6 rfl (by decide +kernel) (Y_mv h) ?_
                intro v h
                refine G_p 7 rfl (by decide +kernel) (Y_mv h) ?_
                intro v h
                refine G_p 8 rfl (by decide +kernel) (Y_ia se22 h) ?_
                intro v h
                refine G_r _ 9 rfl (by decide +kernel) (R_ld sc33 h) ?_
                intro v h
                refine G_e 5 rfl (by decide +kernel) (N_bi rfl h ?_)
                intro v w h
                refine ⟨keepF_cons (kp_1 h) (keepF_dep [4] (by decide +kernel) rfl keepF_nil), ?_⟩
                replace h := (kp_2 h)
                refine G_e 10 rfl (by decide +kernel) (N_bi rfl h ?_)
                intro v w h
                refine ⟨keepF_dep [9] (by decide +kernel) rfl (keepF_dep [5, 4] (by decide +kernel) rfl keepF_nil), ?_⟩
                refine G_e 11 rfl (by decide +kernel) (N_bsl h ?_)
                intro v w h
                refine ⟨keepF_dep [10, 9] (by decide +kernel) rfl (keepF_dep [10, 5, 4] (by decide +kernel) rfl keepF_nil), ?_⟩
                refine G_e 12 rfl (by decide +kernel) (N_bi rfl h ?_)
                intro v w h
                refine ⟨keepF_dep [10, 9] (by decide +kernel) rfl (keepF_dep [10, 5, 4] (by decide +kernel) rfl keepF_nil), ?_⟩
                refine G_p 13 rfl (by decide +kernel) (Y_as h) ?_
                intro v h
                refine G_done (by decide +kernel) ?_
                exact J5 _ _ h
              · refine C_skip ?_
                exact J5 _ _ h
            · unfold f12_j5 at h
              refine B_n ?_
              refine E_n ?_
              refine L_region ?_
              refine L_mv ?_
              refine L_u (P_ad h) ?_
              intro v w h
              refine L_as ?_
              refine L_nil ?_
              refine E_n ?_
              exact L4 _ _ h
          · refine C_exit ?_
            refine E_x ?_
            refine E_x ?_
            refine B_x ?_
            exact J3 _ _ h
        · unfold f12_j3 at h
          refine B_n ?_
          refine E_n ?_
          refine L_region ?_
          refine L_mv ?_
          refine L_u (P_ad h) ?_
          intro v w h
          refine L_as ?_
          refine L_nil ?_
          refine E_n ?_
          exact L2 _ _ h
      · refine C_exit ?_
        refine E_x ?_
        refine E_x ?_
        refine B_x ?_
        exact J1 _ _ h
    · unfold f12_j1 at h
      refine E_n ?_
      refine wp_seq ?_
      refine L_region ?_
      refine L_mv ?_
      refine L_as ?_
      refine L_as ?_
      refine L_nil ?_
      refine E_n ?_
      refine C_ret ?_
      show bodyPost Try.prog Try.f12 (Rt Q) .ret _ _
      exact post_tmps (ts := [8, 9]) (.inr rfl) rfl h
end Go.Proofs.Ytlmiimojgledpaa
