/- Functions as predicate transformers, and that the machine does what they say, by program. -/
import Derived.Test.YtjaiodbonffciaaTy
set_option linter.unusedVariables false
set_option maxRecDepth 20000
set_option maxHeartbeats 4000000
namespace Go.Proofs.Ytjaiodbonffciaa
open Sh
attribute [local irreducible] wpL anyG act jn lo gdB amb kp smr nc fa ld ldn st stn ad su mu qu re lt le gt ge eqi nei bws shl shr cat eqs nes lts gts eqb neb nt pk cv al bx ex fld fldn lnl lns ia iaa ixs sls sll sla mif mnm mxm mm asrt sm smu cl cc cf ci cnd gd gdu
/- factotum/device.New -/
def f10 (t0 : Value) : M :=
  mxm t0 (.int .i64 0) fun t4 =>
  mnm t4 (.int .i64 4096) fun t5 =>
  sm Try.prog (Instr.makeSlice 57 t5 t5) fun t6 =>
  mm fun t7 =>
  smr Try.prog (Instr.build 60 #[(0, t6), (1, t7), (3, (.int .i64 4611686018427387904))]) fun t8 =>
  bx 60 t8 fun t9 =>
  rt t9
theorem s10 (t0 : Value) (w : World) (Q : Value → World → Prop) (h : f10 t0 w Q) : Calls Try.prog 10 #[t0] w (Rt Q) := by
  refine calls_of (l := [t0]) Try.func10 rfl Try.ntmps10 (Nat.le_of_ble_eq_true rfl) ?_
  unfold f10 at h
  refine wp_seq ?_
  refine L_region ?_
  refine L_as ?_
  refine L_nil ?_
  refine E_n ?_
  refine wp_seq ?_
  refine L_region ?_
  refine L_mv ?_
  refine L_u (P_mxm (t := 0) h) ?_
  intro v w h
  refine L_u (P_mnm (t := 0) h) ?_
  intro v w h
  refine L_u (P_sm rfl h) ?_
  intro v w h
  refine L_u (P_mm h) ?_
  intro v w h
  refine L_u (N_bld h) ?_
  intro v w h
  refine L_u (P_bx h) ?_
  intro v w h
  refine L_as ?_
  refine L_nil ?_
  refine E_n ?_
  refine C_ret ?_
  show bodyPost Try.prog Try.f10 (Rt Q) .ret _ _
  exact post_tmps (ts := [2]) (.inr rfl) rfl h

/- (*factotum/device.Device).Size -/
def f11 (t0 : Value) : M :=
  smr Try.prog (do eqGuard .eql 23 (.tmp 3) (.const (.pointer none)) t0 (.pointer none); binOp .eql 23 t0 (.pointer none)) fun t4 =>
  cnd t4 (
    rt (.int .i64 0)
    ) (
    nc t0 fun t6 =>
    fa 0 t6 fun t7 =>
    ld t7 fun t8 =>
    lnl t8 fun t9 =>
    rt t9
    )
theorem s11 (t0 : Value) (w : World) (Q : Value → World → Prop) (h : f11 t0 w Q) : Calls Try.prog 11 #[t0] w (Rt Q) := by
  refine calls_of (l := [t0]) Try.func11 rfl Try.ntmps11 (Nat.le_of_ble_eq_true rfl) ?_
  unfold f11 at h
  refine wp_seq ?_
  refine L_region ?_
  refine L_as ?_
  refine L_nil ?_
  refine E_n ?_
  refine wp_seq ?_
  refine wp_seq ?_
  refine L_region ?_
  refine L_mv ?_
  refine L_u (P_smr rfl h) ?_
  intro v w h
  refine L_nil ?_
  refine E_n ?_
  refine C_cnd h (fun h => ?_) (fun h => ?_)
  · refine wp_seq ?_
    refine L_region ?_
    refine L_as ?_
    refine L_nil ?_
    refine E_n ?_
    refine C_ret ?_
    show bodyPost Try.prog Try.f11 (Rt Q) .ret _ _
    exact post_tmps (ts := [2]) (.inr rfl) rfl h
  · refine C_skip ?_
    refine E_n ?_
    refine wp_seq ?_
    refine L_region ?_
    refine L_mv ?_
    refine L_u (P_nc h) ?_
    intro v w h
    refine L_u (P_fa fo60_0 h) ?_
    intro v w h
    refine L_u (P_ld sc57 h) ?_
    intro v w h
    refine L_u (P_lnl is57 h) ?_
    intro v w h
    refine L_as ?_
    refine L_nil ?_
    refine E_n ?_
    refine C_ret ?_
    show bodyPost Try.prog Try.f11 (Rt Q) .ret _ _
    exact post_tmps (ts := [2]) (.inr rfl) rfl h

/- factotum/factotumref04.Whole -/
def f12_b2 (j1 : Value → M) (self2 : Value → Value → Value → M) (t0_1 t3 t4 : Value) : M :=
  lns t0_1 fun t8 =>
  lt .i64 t4 t8 fun t9 =>
  gd t9 true (idv t4) fun t11 =>
  gd t9 true (lt .i64 t11 (.int .i64 64)) fun t12 =>
  pk t9 t12 (.bool false) fun t13 =>
  cnd t13 (
    ixs t0_1 t4 fun t20 =>
    ia 1 t3 t4 fun t21 =>
    st t21 t20 <|
    ad .i64 t4 (.int .i64 1) fun t15 =>
    self2 t0_1 t3 t15
    ) (
    j1 t3
    )
def f12_j1 (t3_1 : Value) : M :=
  smr Try.prog (convert 61 9 t3_1) fun t23 =>
  rt t23
def f12 (t0 : Value) : M :=
  sm Try.prog (Instr.makeSlice 61 (.int .i64 64) (.int .i64 64)) fun t5 =>
  jn (fun (j1 : Value → M) =>
    lo (fun _ _ _ => bot) (f12_b2 j1) (fun l => l t0 t5 (.int .i64 0))
    ) (f12_j1)
theorem s12 (t0 : Value) (w : World) (Q : Value → World → Prop) (h : f12 t0 w Q) : Calls Try.prog 12 #[t0] w (Rt Q) := by
  refine calls_of (l := [t0]) Try.func12 rfl Try.ntmps12 (Nat.le_of_ble_eq_true rfl) ?_
  unfold f12 at h
  refine wp_seq ?_
  refine L_region ?_
  refine L_as ?_
  refine L_nil ?_
  refine E_n ?_
  refine wp_seq ?_
  refine L_region ?_
  refine L_u (P_sm rfl h) ?_
  intro v w h
  refine L_as ?_
  refine L_nil ?_
  refine E_n ?_
  refine wp_seq ?_
  refine wp_seq ?_
  refine L_region ?_
  refine L_as ?_
  refine L_nil ?_
  refine E_n ?_
  refine C_join (fun (k : Value → M) (ρ : Nat → Value) => k (ρ 3)) h (fun j1 J1 h => ?_) (fun ρ w h => ?_)
  · refine C_blk ?_
    refine C_lo (fun (l : Value → Value → Value → M) (ρ : Nat → Value) => l (ρ 0) (ρ 3) (ρ 4)) h (fun ρ w h => h) (fun nx self2 L2 ρ w h => ?_)
    unfold f12_b2 at h
    refine wp_seq ?_
    refine wp_seq ?_
    refine L_region ?_
    refine L_mv ?_
    refine L_mv ?_
    refine L_u (P_lns st9 h) ?_
    intro v w h
    refine L_u (P_lt h) ?_
    intro v w h
    refine L_mv ?_
    refine L_g (t := 10) h rfl rfl (fun c h => P_mv h c) ?_
    intro v w h
    refine L_g (t := 10) h rfl rfl (fun c h => P_lt h c) ?_
    intro v w h
    refine L_u (P_pk h) ?_
    intro v w h
    refine L_nil ?_
    refine E_n ?_
    refine C_cnd h (fun h => ?_) (fun h => ?_)
    · refine C_skip ?_
      refine E_n ?_
      refine wp_seq ?_
      refine C_blk ?_
      refine L_region ?_
      refine L_mv ?_
      refine L_mv ?_
      refine L_mv ?_
      refine L_mv ?_
      refine L_u (P_ixs st9 h) ?_
      intro v w h
      refine L_u (P_ia se61 h) ?_
      intro v w h
      refine L_u (P_st on5 h) ?_
      intro w h
      refine L_nil ?_
      refine B_n ?_
      refine E_n ?_
      refine L_region ?_
      refine L_mv ?_
      refine L_u (P_ad h) ?_
      intro v w h
      refine L_as ?_
      refine L_nil ?_
      refine E_n ?_
      exact L2 _ _ h
    · refine C_exit ?_
      refine E_x ?_
      refine E_x ?_
      refine B_x ?_
      exact J1 _ _ h
  · unfold f12_j1 at h
    refine E_n ?_
    refine wp_seq ?_
    refine L_region ?_
    refine L_mv ?_
    refine L_u (P_smr rfl h) ?_
    intro v w h
    refine L_as ?_
    refine L_nil ?_
    refine E_n ?_
    refine C_ret ?_
    show bodyPost Try.prog Try.f12 (Rt Q) .ret _ _
    exact post_tmps (ts := [2]) (.inr rfl) rfl h

/- (*factotum/device.Device).Read -/
def f13_j1 (t5_1 : Value) : M :=
  sla 64 1 t5_1 none none fun t40 =>
  smr Try.prog (convert 61 9 t40) fun t41 =>
  rt t41
def f13 (t0 t1 : Value) : M :=
  smr Try.prog (do eqGuard .eql 23 (.tmp 7) (.const (.pointer none)) t0 (.pointer none); binOp .eql 23 t0 (.pointer none)) fun t8 =>
  gd t8 false (idv t1) fun t10 =>
  gd t8 false (lt .i64 t10 (.int .i64 0)) fun t11 =>
  pk t8 (.bool true) t11 fun t12 =>
  gd t12 false (idv t1) fun t14 =>
  gd t12 false (idv t0) fun t15 =>
  gd t12 false (nc t15) fun t16 =>
  gd t12 false (fa 0 t16) fun t17 =>
  gd t12 false (ld t17) fun t18 =>
  gd t12 false (lnl t18) fun t19 =>
  gd t12 false (ge .i64 t14 t19) fun t20 =>
  pk t12 (.bool true) t20 fun t21 =>
  cnd t21 (
    rt (.string ⟨#[]⟩)
    ) (
    nc t0 fun t24 =>
    fa 1 t24 fun t25 =>
    ld t25 fun t26 =>
    smr Try.prog (Instr.lookup 58 t26 t1 true) fun t28 =>
    ex 0 t28 fun t29 =>
    ex 1 t28 fun t30 =>
    al 63 (Array.replicate 64 (.int .u8 0)) fun t5 =>
    stn 64 t5 t29 <|
    nt t30 fun t32 =>
    jn (fun (j1 : Value → M) =>
      cnd t32 (
        nc t0 fun t34 =>
        fa 0 t34 fun t35 =>
        ld t35 fun t36 =>
        ia 64 t36 t1 fun t38 =>
        ldn 64 t38 fun t39 =>
        stn 64 t5 t39 <|
        j1 t5
        ) (
        j1 t5
        )
      ) (f13_j1)
    )
theorem s13 (t0 t1 : Value) (w : World) (Q : Value → World → Prop) (h : f13 t0 t1 w Q) : Calls Try.prog 13 #[t0, t1] w (Rt Q) := by
  refine calls_of (l := [t0, t1]) Try.func13 rfl Try.ntmps13 (Nat.le_of_ble_eq_true rfl) ?_
  unfold f13 at h
  refine wp_seq ?_
  refine L_region ?_
  refine L_as ?_
  refine L_nil ?_
  refine E_n ?_
  refine wp_seq ?_
  refine wp_seq ?_
  refine L_region ?_
  refine L_mv ?_
  refine L_u (P_smr rfl h) ?_
  intro v w h
  refine L_mv ?_
  refine L_g (t := 9) h rfl rfl (fun c h => P_mv h c) ?_
  intro v w h
  refine L_g (t := 9) h rfl rfl (fun c h => P_lt h c) ?_
  intro v w h
  refine L_u (P_pk h) ?_
  intro v w h
  refine L_mv ?_
  refine L_g (t := 13) h rfl rfl (fun c h => P_mv h c) ?_
  intro v w h
  refine L_g (t := 13) h rfl rfl (fun c h => P_mv h c) ?_
  intro v w h
  refine L_g (t := 13) h rfl rfl (fun c h => P_nc h c) ?_
  intro v w h
  refine L_g (t := 13) h rfl rfl (fun c h => P_fa fo60_0 h c) ?_
  intro v w h
  refine L_g (t := 13) h rfl rfl (fun c h => P_ld sc57 h c) ?_
  intro v w h
  refine L_g (t := 13) h rfl rfl (fun c h => P_lnl is57 h c) ?_
  intro v w h
  refine L_g (t := 13) h rfl rfl (fun c h => P_ge h c) ?_
  intro v w h
  refine L_u (P_pk h) ?_
  intro v w h
  refine L_nil ?_
  refine E_n ?_
  refine C_cnd h (fun h => ?_) (fun h => ?_)
  · refine wp_seq ?_
    refine L_region ?_
    refine L_as ?_
    refine L_nil ?_
    refine E_n ?_
    refine C_ret ?_
    show bodyPost Try.prog Try.f13 (Rt Q) .ret _ _
    exact post_tmps (ts := [4]) (.inr rfl) rfl h
  · refine C_skip ?_
    refine E_n ?_
    refine wp_seq ?_
    refine L_region ?_
    refine L_mv ?_
    refine L_u (P_nc h) ?_
    intro v w h
    refine L_u (P_fa fo60_1 h) ?_
    intro v w h
    refine L_u (P_ld sc58 h) ?_
    intro v w h
    refine L_mv ?_
    refine L_u (P_smr rfl h) ?_
    intro v w h
    refine L_mv ?_
    refine L_u (P_ex h) ?_
    intro v w h
    refine L_u (P_ex h) ?_
    intro v w h
    refine L_u (P_al ze63 rfl h) ?_
    intro v w h
    refine L_u (P_stn ag63 h) ?_
    intro w h
    refine L_as ?_
    refine L_nil ?_
    refine E_n ?_
    refine wp_seq ?_
    refine wp_seq ?_
    refine L_region ?_
    refine L_mv ?_
    refine L_u (P_nt h) ?_
    intro v w h
    refine L_nil ?_
    refine E_n ?_
    refine C_join (fun (k : Value → M) (ρ : Nat → Value) => k (ρ 5)) h (fun j1 J1 h => ?_) (fun ρ w h => ?_)
    · refine C_cnd h (fun h => ?_) (fun h => ?_)
      · refine L_region ?_
        refine L_mv ?_
        refine L_u (P_nc h) ?_
        intro v w h
        refine L_u (P_fa fo60_0 h) ?_
        intro v w h
        refine L_u (P_ld sc57 h) ?_
        intro v w h
        refine L_mv ?_
        refine L_u (P_ia se57 h) ?_
        intro v w h
        refine L_u (P_ldn ag63 h) ?_
        intro v w h
        refine L_u (P_stn ag63 h) ?_
        intro w h
        refine L_nil ?_
        exact J1 _ _ h
      · refine C_skip ?_
        exact J1 _ _ h
    · unfold f13_j1 at h
      refine E_n ?_
      refine wp_seq ?_
      refine L_region ?_
      refine L_u (P_sla ae63 h) ?_
      intro v w h
      refine L_u (P_smr rfl h) ?_
      intro v w h
      refine L_as ?_
      refine L_nil ?_
      refine E_n ?_
      refine C_ret ?_
      show bodyPost Try.prog Try.f13 (Rt Q) .ret _ _
      exact post_tmps (ts := [4]) (.inr rfl) rfl h

/- (*factotum/device.Device).Calls -/
def f15 (t0 : Value) : M :=
  smr Try.prog (do eqGuard .eql 23 (.tmp 3) (.const (.pointer none)) t0 (.pointer none); binOp .eql 23 t0 (.pointer none)) fun t4 =>
  cnd t4 (
    rt (.int .i64 0)
    ) (
    nc t0 fun t6 =>
    fa 2 t6 fun t7 =>
    ld t7 fun t8 =>
    rt t8
    )
theorem s15 (t0 : Value) (w : World) (Q : Value → World → Prop) (h : f15 t0 w Q) : Calls Try.prog 15 #[t0] w (Rt Q) := by
  refine calls_of (l := [t0]) Try.func15 rfl Try.ntmps15 (Nat.le_of_ble_eq_true rfl) ?_
  unfold f15 at h
  refine wp_seq ?_
  refine L_region ?_
  refine L_as ?_
  refine L_nil ?_
  refine E_n ?_
  refine wp_seq ?_
  refine wp_seq ?_
  refine L_region ?_
  refine L_mv ?_
  refine L_u (P_smr rfl h) ?_
  intro v w h
  refine L_nil ?_
  refine E_n ?_
  refine C_cnd h (fun h => ?_) (fun h => ?_)
  · refine wp_seq ?_
    refine L_region ?_
    refine L_as ?_
    refine L_nil ?_
    refine E_n ?_
    refine C_ret ?_
    show bodyPost Try.prog Try.f15 (Rt Q) .ret _ _
    exact post_tmps (ts := [2]) (.inr rfl) rfl h
  · refine C_skip ?_
    refine E_n ?_
    refine wp_seq ?_
    refine L_region ?_
    refine L_mv ?_
    refine L_u (P_nc h) ?_
    intro v w h
    refine L_u (P_fa fo60_2 h) ?_
    intro v w h
    refine L_u (P_ld sc3 h) ?_
    intro v w h
    refine L_as ?_
    refine L_nil ?_
    refine E_n ?_
    refine C_ret ?_
    show bodyPost Try.prog Try.f15 (Rt Q) .ret _ _
    exact post_tmps (ts := [2]) (.inr rfl) rfl h

/- maps.Keys[map[int]factotum/device.sector,int,factotum/device.sector] -/
def f30 (t0 : Value) : M :=
  bx 58 t0 fun t1 =>
  idv (.func (.func 38) #[] #[t1]) fun t3 =>
  rt t3
theorem s30 (t0 : Value) (w : World) (Q : Value → World → Prop) (h : f30 t0 w Q) : Calls Try.prog 30 #[t0] w (Rt Q) := by
  refine calls_of (l := [t0]) Try.func30 rfl Try.ntmps30 (Nat.le_of_ble_eq_true rfl) ?_
  unfold f30 at h
  refine wp_seq ?_
  refine L_region ?_
  refine L_u (P_bx h) ?_
  intro v w h
  refine L_as ?_
  refine L_nil ?_
  refine E_n ?_
  refine wp_seq ?_
  refine L_region ?_
  refine L_u (N_mf h) ?_
  intro v w h
  refine L_as ?_
  refine L_nil ?_
  refine E_n ?_
  refine C_ret ?_
  show bodyPost Try.prog Try.f30 (Rt Q) .ret _ _
  exact post_tmps (ts := [2]) (.inr rfl) rfl h

/- (*factotum/device.Device).Unsure -/
def f14 (t0 : Value) : M :=
  smr Try.prog (do eqGuard .eql 23 (.tmp 3) (.const (.pointer none)) t0 (.pointer none); binOp .eql 23 t0 (.pointer none)) fun t4 =>
  cnd t4 (
    rt (.slice none 0 0)
    ) (
    nc t0 fun t6 =>
    fa 1 t6 fun t7 =>
    ld t7 fun t8 =>
    cl (f30 t8) fun t9 =>
    cc Try.prog 29 #[t9] fun t10 =>
    rt t10
    )
theorem s14 (t0 : Value) (w : World) (Q : Value → World → Prop) (h : f14 t0 w Q) : Calls Try.prog 14 #[t0] w (Rt Q) := by
  refine calls_of (l := [t0]) Try.func14 rfl Try.ntmps14 (Nat.le_of_ble_eq_true rfl) ?_
  unfold f14 at h
  refine wp_seq ?_
  refine L_region ?_
  refine L_as ?_
  refine L_nil ?_
  refine E_n ?_
  refine wp_seq ?_
  refine wp_seq ?_
  refine L_region ?_
  refine L_mv ?_
  refine L_u (P_smr rfl h) ?_
  intro v w h
  refine L_nil ?_
  refine E_n ?_
  refine C_cnd h (fun h => ?_) (fun h => ?_)
  · refine wp_seq ?_
    refine L_region ?_
    refine L_as ?_
    refine L_nil ?_
    refine E_n ?_
    refine C_ret ?_
    show bodyPost Try.prog Try.f14 (Rt Q) .ret _ _
    exact post_tmps (ts := [2]) (.inr rfl) rfl h
  · refine C_skip ?_
    refine E_n ?_
    refine wp_seq ?_
    refine L_region ?_
    refine L_mv ?_
    refine L_u (P_nc h) ?_
    intro v w h
    refine L_u (P_fa fo60_1 h) ?_
    intro v w h
    refine L_u (P_ld sc58 h) ?_
    intro v w h
    refine L_u (N_cl Try.func30 rfl nn30 (fun w Q h => s30 _ w Q h) h) ?_
    intro v w h
    refine L_u (N_cc Try.func29 rfl nn29 h) ?_
    intro v w h
    refine L_as ?_
    refine L_nil ?_
    refine E_n ?_
    refine C_ret ?_
    show bodyPost Try.prog Try.f14 (Rt Q) .ret _ _
    exact post_tmps (ts := [2]) (.inr rfl) rfl h

/- (*factotum/device.Device).Crash -/
def f24_j3 (self2 : Value → Value → Value → Value → Value → Value → Value → M) (t0_2 t1_2 t2_2 t3_2 t14_2 t15_2 t16_1 : Value) : M :=
  ad .i64 t16_1 (.int .i64 1) fun t74 =>
  self2 t0_2 t1_2 t2_2 t3_2 t14_2 t15_2 t74
def f24_b2 (j1 : Value → M) (self2 : Value → Value → Value → Value → Value → Value → Value → M) (t0_1 t1_1 t2_1 t3_1 t14_1 t15_1 t16 : Value) : M :=
  lt .i64 t16 t15_1 fun t17 =>
  cnd t17 (
    ia 1 t14_1 t16 fun t19 =>
    ld t19 fun t20 =>
    nc t0_1 fun t22 =>
    fa 1 t22 fun t23 =>
    ld t23 fun t24 =>
    smr Try.prog (Instr.lookup 58 t24 t20 false) fun t26 =>
    al 63 (Array.replicate 64 (.int .u8 0)) fun t10 =>
    stn 64 t10 t26 <|
    eqi .i64 t16 t2_1 fun t30 =>
    jn (fun (j3 : Value → Value → Value → Value → Value → Value → Value → M) =>
      cnd t30 (
        dr <|
        idv t0_1 fun t31 =>
        nc t31 fun t32 =>
        fa 0 t32 fun t33 =>
        ld t33 fun t34 =>
        idv t20 fun t35 =>
        ia 64 t34 t35 fun t36 =>
        idv t3_1 fun t37 =>
        mxm t37 (.int .i64 0) fun t38 =>
        mnm t38 (.int .i64 64) fun t39 =>
        sla 64 1 t36 none (some t39) fun t40 =>
        sla 64 1 t10 none none fun t41 =>
        sm Try.prog (Builtin.copy_ #[61, 61] 3 #[t40, t41]) fun t42 =>
        j3 t0_1 t1_1 t2_1 t3_1 t14_1 t15_1 t16
        ) (
        dr <|
        idv t1_1 fun t44 =>
        lnl t44 fun t45 =>
        gt .i64 t45 (.int .i64 0) fun t46 =>
        idv t46 fun t47 =>
        gd t47 true (idv t1_1) fun t48 =>
        gd t47 true (idv t16) fun t49 =>
        gd t47 true (idv t1_1) fun t50 =>
        gd t47 true (lnl t50) fun t51 =>
        gd t47 true (re .i64 t49 t51) fun t52 =>
        gd t47 true (ia 1 t48 t52) fun t53 =>
        gd t47 true (ld t53) fun t54 =>
        pk t47 t54 (.bool false) fun t55 =>
        idv t55 fun t56 =>
        gd t56 true (ldn 64 t10) fun t57 =>
        gd t56 true (idv t0_1) fun t58 =>
        gd t56 true (nc t58) fun t59 =>
        gd t56 true (fa 0 t59) fun t60 =>
        gd t56 true (ld t60) fun t61 =>
        gd t56 true (idv t20) fun t62 =>
        gd t56 true (ia 64 t61 t62) fun t63 =>
        gd t56 true (ldn 64 t63) fun t64 =>
        gd t56 true (smr Try.prog (do eqGuard .neq 63 (.tmp 57) (.tmp 64) t57 t64; binOp .neq 63 t57 t64)) fun t65 =>
        pk t56 t65 (.bool false) fun t66 =>
        idv t66 fun t43 =>
        cnd t43 (
          dr <|
          idv t0_1 fun t67 =>
          nc t67 fun t68 =>
          fa 0 t68 fun t69 =>
          ld t69 fun t70 =>
          idv t20 fun t71 =>
          ldn 64 t10 fun t72 =>
          ia 64 t70 t71 fun t73 =>
          stn 64 t73 t72 <|
          j3 t0_1 t1_1 t2_1 t3_1 t14_1 t15_1 t16
          ) (
          j3 t0_1 t1_1 t2_1 t3_1 t14_1 t15_1 t16
          )
        )
      ) (f24_j3 self2)
    ) (
    j1 t0_1
    )
def f24_j1 (t0_3 : Value) : M :=
  nc t0_3 fun t76 =>
  fa 1 t76 fun t77 =>
  ld t77 fun t78 =>
  sm Try.prog (Builtin.clear_ #[58] 0 #[t78]) fun _ =>
  nc t0_3 fun t80 =>
  fa 3 t80 fun t81 =>
  st t81 (.int .i64 4611686018427387904) <|
  rt (.tuple #[])
def f24 (t0 t1 t2 t3 : Value) : M :=
  smr Try.prog (do eqGuard .eql 23 (.tmp 11) (.const (.pointer none)) t0 (.pointer none); binOp .eql 23 t0 (.pointer none)) fun t12 =>
  cnd t12 (
    rt (.tuple #[])
    ) (
    cl (f14 t0) fun t14 =>
    lnl t14 fun t15 =>
    jn (fun (j1 : Value → M) =>
      lo (fun _ _ _ _ _ _ _ => bot) (f24_b2 j1) (fun l => l t0 t1 t2 t3 t14 t15 (.int .i64 0))
      ) (f24_j1)
    )
theorem s24 (t0 t1 t2 t3 : Value) (w : World) (Q : Value → World → Prop) (h : f24 t0 t1 t2 t3 w Q) : Calls Try.prog 24 #[t0, t1, t2, t3] w (Rt Q) := by
  refine calls_of (l := [t0, t1, t2, t3]) Try.func24 rfl Try.ntmps24 (Nat.le_of_ble_eq_true rfl) ?_
  unfold f24 at h
  refine wp_seq ?_
  refine wp_seq ?_
  refine L_region ?_
  refine L_mv ?_
  refine L_u (P_smr rfl h) ?_
  intro v w h
  refine L_nil ?_
  refine E_n ?_
  refine C_cnd h (fun h => ?_) (fun h => ?_)
  · refine C_ret ?_
    show bodyPost Try.prog Try.f24 (Rt Q) .ret _ _
    exact post_tmps (ts := []) (.inr rfl) rfl h
  · refine C_skip ?_
    refine E_n ?_
    refine wp_seq ?_
    refine wp_seq ?_
    refine L_region ?_
    refine L_mv ?_
    refine L_u (N_cl Try.func14 rfl nn14 (fun w Q h => s14 _ w Q h) h) ?_
    intro v w h
    refine L_u (P_lnl is29 h) ?_
    intro v w h
    refine L_mv ?_
    refine L_nil ?_
    refine E_n ?_
    refine C_join (fun (k : Value → M) (ρ : Nat → Value) => k (ρ 0)) h (fun j1 J1 h => ?_) (fun ρ w h => ?_)
    · refine C_blk ?_
      refine C_lo (fun (l : Value → Value → Value → Value → Value → Value → Value → M) (ρ : Nat → Value) => l (ρ 0) (ρ 1) (ρ 2) (ρ 3) (ρ 14) (ρ 15) (ρ 16)) h (fun ρ w h => h) (fun nx self2 L2 ρ w h => ?_)
      unfold f24_b2 at h
      refine wp_seq ?_
      refine L_region ?_
      refine L_u (P_lt h) ?_
      intro v w h
      refine L_nil ?_
      refine E_n ?_
      refine wp_seq ?_
      refine C_cnd h (fun h => ?_) (fun h => ?_)
      · refine C_skip ?_
        refine E_n ?_
        refine wp_seq ?_
        refine C_blk ?_
        refine wp_seq ?_
        refine L_region ?_
        refine L_mv ?_
        refine L_u (P_ia se29 h) ?_
        intro v w h
        refine L_u (P_ld sc3 h) ?_
        intro v w h
        refine L_as ?_
        refine L_as ?_
        refine L_nil ?_
        refine E_n ?_
        refine wp_seq ?_
        refine L_region ?_
        refine L_mv ?_
        refine L_u (P_nc h) ?_
        intro v w h
        refine L_u (P_fa fo60_1 h) ?_
        intro v w h
        refine L_u (P_ld sc58 h) ?_
        intro v w h
        refine L_mv ?_
        refine L_u (P_smr rfl h) ?_
        intro v w h
        refine L_u (P_al ze63 rfl h) ?_
        intro v w h
        refine L_u (P_stn ag63 h) ?_
        intro w h
        refine L_nil ?_
        refine E_n ?_
        refine C_blk ?_
        refine wp_seq ?_
        refine L_region ?_
        refine L_mv ?_
        refine L_mv ?_
        refine L_u (P_eqi h) ?_
        intro v w h
        refine L_as ?_
        refine L_nil ?_
        refine E_n ?_
        refine C_join (fun (k : Value → Value → Value → Value → Value → Value → Value → M) (ρ : Nat → Value) => k (ρ 0) (ρ 1) (ρ 2) (ρ 3) (ρ 14) (ρ 15) (ρ 16)) h (fun j3 J3 h => ?_) (fun ρ w h => ?_)
        · refine C_cnd h (fun h => ?_) (fun h => ?_)
          · refine D_region (by decide +kernel) 12 rfl ?_
            replace h := dr_e h
            refine G_p 0 rfl (by decide +kernel) (Y_mv h) ?_
            intro v h
            refine G_p 1 rfl (by decide +kernel) (Y_nc h) ?_
            intro v h
            refine G_p 2 rfl (by decide +kernel) (Y_fa fo60_0 h) ?_
            intro v h
            refine G_r _ 3 rfl (by decide +kernel) (R_ld sc57 h) ?_
            intro v h
            refine G_p 4 rfl (by decide +kernel) (Y_mv h) ?_
            intro v h
            refine G_p 5 rfl (by decide +kernel) (Y_ia se57 h) ?_
            intro v h
            refine G_p 6 rfl (by decide +kernel) (Y_mv h) ?_
            intro v h
            refine G_p 7 rfl (by decide +kernel) (Y_mxm (t := 0) h) ?_
            intro v h
            refine G_p 8 rfl (by decide +kernel) (Y_mnm (t := 0) h) ?_
            intro v h
            refine G_p 9 rfl (by decide +kernel) (Y_sla ae63 h) ?_
            intro v h
            refine G_p 10 rfl (by decide +kernel) (Y_sla ae63 h) ?_
            intro v h
            refine G_e 11 rfl (by decide +kernel) (N_bi rfl h ?_)
            intro v w h
            refine ⟨keepF_dep [9, 5, 3] (by decide +kernel) rfl keepF_nil, ?_⟩
            refine G_done (by decide +kernel) ?_
            exact J3 _ _ h
          · refine wp_seq ?_
            refine D_region (by decide +kernel) 24 rfl ?_
            replace h := dr_e h
            refine G_p 0 rfl (by decide +kernel) (Y_mv h) ?_
            intro v h
            refine G_p 1 rfl (by decide +kernel) (Y_lnl is38 h) ?_
            intro v h
            refine G_p 2 rfl (by decide +kernel) (Y_gt h) ?_
            intro v h
            refine G_p 3 rfl (by decide +kernel) (Y_mv h) ?_
            intro v h
            refine G_pg (t := 47) 4 rfl (by decide +kernel) h rfl rfl (fun h => Y_mv h) ?_
            intro v h
            refine G_pg (t := 47) 5 rfl (by decide +kernel) h rfl rfl (fun h => Y_mv h) ?_
            intro v h
            refine G_pg (t := 47) 6 rfl (by decide +kernel) h rfl rfl (fun h => Y_mv h) ?_
            intro v h
            refine G_pg (t := 47) 7 rfl (by decide +kernel) h rfl rfl (fun h => Y_lnl is38 h) ?_
            intro v h
            refine G_pg (t := 47) 8 rfl (by decide +kernel) h rfl rfl (fun h => Y_re h) ?_
            intro v h
            refine G_pg (t := 47) 9 rfl (by decide +kernel) h rfl rfl (fun h => Y_ia se38 h) ?_
            intro v h
            refine G_rg (t := 47) _ 10 rfl (by decide +kernel) h rfl rfl (fun h => R_ld sc4 h) ?_
            intro v h
            refine G_p 11 rfl (by decide +kernel) (Y_pk h) ?_
            intro v h
            refine G_p 12 rfl (by decide +kernel) (Y_mv h) ?_
            intro v h
            refine G_rg (t := 56) _ 13 rfl (by decide +kernel) h rfl rfl (fun h => R_ldn ag63 h) ?_
            intro v h
            refine G_pg (t := 56) 14 rfl (by decide +kernel) h rfl rfl (fun h => Y_mv h) ?_
            intro v h
            refine G_pg (t := 56) 15 rfl (by decide +kernel) h rfl rfl (fun h => Y_nc h) ?_
            intro v h
            refine G_pg (t := 56) 16 rfl (by decide +kernel) h rfl rfl (fun h => Y_fa fo60_0 h) ?_
            intro v h
            refine G_rg (t := 56) _ 17 rfl (by decide +kernel) h rfl rfl (fun h => R_ld sc57 h) ?_
            intro v h
            refine G_pg (t := 56) 18 rfl (by decide +kernel) h rfl rfl (fun h => Y_mv h) ?_
            intro v h
            refine G_pg (t := 56) 19 rfl (by decide +kernel) h rfl rfl (fun h => Y_ia se57 h) ?_
            intro v h
            refine G_rg (t := 56) _ 20 rfl (by decide +kernel) h rfl rfl (fun h => R_ldn ag63 h) ?_
            intro v h
            refine G_rg (t := 56) _ 21 rfl (by decide +kernel) h rfl rfl (fun h => R_sm rfl h) ?_
            intro v h
            refine G_p 22 rfl (by decide +kernel) (Y_pk h) ?_
            intro v h
            refine G_p 23 rfl (by decide +kernel) (Y_as h) ?_
            intro v h
            refine G_done (by decide +kernel) ?_
            refine E_n ?_
            refine C_cnd h (fun h => ?_) (fun h => ?_)
            · refine D_region (by decide +kernel) 8 rfl ?_
              replace h := dr_e h
              refine G_p 0 rfl (by decide +kernel) (Y_mv h) ?_
              intro v h
              refine G_p 1 rfl (by decide +kernel) (Y_nc h) ?_
              intro v h
              refine G_p 2 rfl (by decide +kernel) (Y_fa fo60_0 h) ?_
              intro v h
              refine G_r _ 3 rfl (by decide +kernel) (R_ld sc57 h) ?_
              intro v h
              refine G_p 4 rfl (by decide +kernel) (Y_mv h) ?_
              intro v h
              refine G_r _ 5 rfl (by decide +kernel) (R_ldn ag63 h) ?_
              intro v h
              refine G_p 6 rfl (by decide +kernel) (Y_ia se57 h) ?_
              intro v h
              refine G_e 7 rfl (by decide +kernel) (P_stn ag63 h ?_)
              intro w h
              refine ⟨keepF_dep [5] (by decide +kernel) rfl (keepF_dep [3] (by decide +kernel) rfl keepF_nil), ?_⟩
              refine G_done (by decide +kernel) ?_
              exact J3 _ _ h
            · refine C_skip ?_
              exact J3 _ _ h
        · unfold f24_j3 at h
          refine B_n ?_
          refine B_n ?_
          refine E_n ?_
          refine L_region ?_
          refine L_u (P_ad h) ?_
          intro v w h
          refine L_mv ?_
          refine L_nil ?_
          refine E_n ?_
          exact L2 _ _ h
      · refine C_exit ?_
        refine E_x ?_
        refine E_x ?_
        refine B_x ?_
        exact J1 _ _ h
    · unfold f24_j1 at h
      refine E_n ?_
      refine wp_seq ?_
      refine L_region ?_
      refine L_mv ?_
      refine L_u (P_nc h) ?_
      intro v w h
      refine L_u (P_fa fo60_1 h) ?_
      intro v w h
      refine L_u (P_ld sc58 h) ?_
      intro v w h
      refine L_u (N_bin rfl h) ?_
      intro w h
      refine L_nil ?_
      refine E_n ?_
      refine L_region ?_
      refine L_mv ?_
      refine L_u (P_nc h) ?_
      intro v w h
      refine L_u (P_fa fo60_3 h) ?_
      intro v w h
      refine L_u (P_st on3 h) ?_
      intro w h
      refine L_nil ?_
      show bodyPost Try.prog Try.f24 (Rt Q) .normal _ _
      exact post_tmps (ts := []) (.inl rfl) rfl h

/- (*factotum/device.Device).call -/
def f35 (t0 : Value) : M :=
  smr Try.prog (do eqGuard .eql 23 (.tmp 3) (.const (.pointer none)) t0 (.pointer none); binOp .eql 23 t0 (.pointer none)) fun t4 =>
  cnd t4 (
    rt (.int .i64 1)
    ) (
    nc t0 fun t6 =>
    fa 2 t6 fun t7 =>
    ld t7 fun t8 =>
    ad .i64 t8 (.int .i64 1) fun t9 =>
    nc t0 fun t10 =>
    fa 2 t10 fun t11 =>
    st t11 t9 <|
    dr <|
    idv t0 fun t12 =>
    nc t12 fun t13 =>
    fa 2 t13 fun t14 =>
    ld t14 fun t15 =>
    idv t0 fun t16 =>
    nc t16 fun t17 =>
    fa 3 t17 fun t18 =>
    ld t18 fun t19 =>
    gt .i64 t15 t19 fun t20 =>
    cnd t20 (
      rt (.int .i64 9)
      ) (
      rt (.int .i64 0)
      )
    )
theorem s35 (t0 : Value) (w : World) (Q : Value → World → Prop) (h : f35 t0 w Q) : Calls Try.prog 35 #[t0] w (Rt Q) := by
  refine calls_of (l := [t0]) Try.func35 rfl Try.ntmps35 (Nat.le_of_ble_eq_true rfl) ?_
  unfold f35 at h
  refine wp_seq ?_
  refine L_region ?_
  refine L_as ?_
  refine L_nil ?_
  refine E_n ?_
  refine wp_seq ?_
  refine wp_seq ?_
  refine L_region ?_
  refine L_mv ?_
  refine L_u (P_smr rfl h) ?_
  intro v w h
  refine L_nil ?_
  refine E_n ?_
  refine C_cnd h (fun h => ?_) (fun h => ?_)
  · refine wp_seq ?_
    refine L_region ?_
    refine L_as ?_
    refine L_nil ?_
    refine E_n ?_
    refine C_ret ?_
    show bodyPost Try.prog Try.f35 (Rt Q) .ret _ _
    exact post_tmps (ts := [2]) (.inr rfl) rfl h
  · refine C_skip ?_
    refine E_n ?_
    refine wp_seq ?_
    refine L_region ?_
    refine L_mv ?_
    refine L_u (P_nc h) ?_
    intro v w h
    refine L_u (P_fa fo60_2 h) ?_
    intro v w h
    refine L_u (P_ld sc3 h) ?_
    intro v w h
    refine L_u (P_ad h) ?_
    intro v w h
    refine L_u (P_nc h) ?_
    intro v w h
    refine L_u (P_fa fo60_2 h) ?_
    intro v w h
    refine L_u (P_st on3 h) ?_
    intro w h
    refine L_nil ?_
    refine E_n ?_
    refine wp_seq ?_
    refine wp_seq ?_
    refine D_region (by decide +kernel) 9 rfl ?_
    replace h := dr_e h
    refine G_p 0 rfl (by decide +kernel) (Y_mv h) ?_
    intro v h
    refine G_p 1 rfl (by decide +kernel) (Y_nc h) ?_
    intro v h
    refine G_p 2 rfl (by decide +kernel) (Y_fa fo60_2 h) ?_
    intro v h
    refine G_r _ 3 rfl (by decide +kernel) (R_ld sc3 h) ?_
    intro v h
    refine G_p 4 rfl (by decide +kernel) (Y_mv h) ?_
    intro v h
    refine G_p 5 rfl (by decide +kernel) (Y_nc h) ?_
    intro v h
    refine G_p 6 rfl (by decide +kernel) (Y_fa fo60_3 h) ?_
    intro v h
    refine G_r _ 7 rfl (by decide +kernel) (R_ld sc3 h) ?_
    intro v h
    refine G_p 8 rfl (by decide +kernel) (Y_gt h) ?_
    intro v h
    refine G_done (by decide +kernel) ?_
    refine E_n ?_
    refine C_cnd h (fun h => ?_) (fun h => ?_)
    · refine wp_seq ?_
      refine L_region ?_
      refine L_as ?_
      refine L_nil ?_
      refine E_n ?_
      refine C_ret ?_
      show bodyPost Try.prog Try.f35 (Rt Q) .ret _ _
      exact post_tmps (ts := [2]) (.inr rfl) rfl h
    · refine C_skip ?_
      refine E_n ?_
      refine wp_seq ?_
      refine L_region ?_
      refine L_as ?_
      refine L_nil ?_
      refine E_n ?_
      refine C_ret ?_
      show bodyPost Try.prog Try.f35 (Rt Q) .ret _ _
      exact post_tmps (ts := [2]) (.inr rfl) rfl h

/- (*factotum/device.Device).Sync -/
def f25_b2 (j1 : Value → M) (self2 : Value → Value → M) (t0_1 t15_1 : Value) : M :=
  sm Try.prog (Instr.next t15_1 false 0) fun t16 =>
  ex 0 t16 fun t17 =>
  cnd t17 (
    smr Try.prog (Instr.entry t15_1) fun t18 =>
    ex 0 t18 fun t19 =>
    ex 1 t18 fun t20 =>
    al 63 (Array.replicate 64 (.int .u8 0)) fun t5 =>
    stn 64 t5 t20 <|
    dr <|
    idv t0_1 fun t21 =>
    nc t21 fun t22 =>
    fa 0 t22 fun t23 =>
    ld t23 fun t24 =>
    idv t19 fun t25 =>
    ldn 64 t5 fun t26 =>
    ia 64 t24 t25 fun t27 =>
    stn 64 t27 t26 <|
    self2 t0_1 t15_1
    ) (
    j1 t0_1
    )
def f25_j1 (t0_2 : Value) : M :=
  nc t0_2 fun t29 =>
  fa 1 t29 fun t30 =>
  ld t30 fun t31 =>
  sm Try.prog (Builtin.clear_ #[58] 0 #[t31]) fun _ =>
  rt (.int .i64 0)
def f25 (t0 : Value) : M :=
  cl (f35 t0) fun t7 =>
  nei .i64 t7 (.int .i64 0) fun t9 =>
  cnd t9 (
    rt t7
    ) (
    nc t0 fun t12 =>
    fa 1 t12 fun t13 =>
    ld t13 fun t14 =>
    sm Try.prog (Instr.range 58 t14) fun t15 =>
    jn (fun (j1 : Value → M) =>
      lo (fun _ _ => bot) (f25_b2 j1) (fun l => l t0 t15)
      ) (f25_j1)
    )
theorem s25 (t0 : Value) (w : World) (Q : Value → World → Prop) (h : f25 t0 w Q) : Calls Try.prog 25 #[t0] w (Rt Q) := by
  refine calls_of (l := [t0]) Try.func25 rfl Try.ntmps25 (Nat.le_of_ble_eq_true rfl) ?_
  unfold f25 at h
  refine wp_seq ?_
  refine L_region ?_
  refine L_as ?_
  refine L_nil ?_
  refine E_n ?_
  refine wp_seq ?_
  refine wp_seq ?_
  refine L_region ?_
  refine L_mv ?_
  refine L_u (N_cl Try.func35 rfl nn35 (fun w Q h => s35 _ w Q h) h) ?_
  intro v w h
  refine L_as ?_
  refine L_nil ?_
  refine E_n ?_
  refine wp_seq ?_
  refine L_region ?_
  refine L_mv ?_
  refine L_u (P_nei h) ?_
  intro v w h
  refine L_nil ?_
  refine E_n ?_
  refine C_cnd h (fun h => ?_) (fun h => ?_)
  · refine wp_seq ?_
    refine L_region ?_
    refine L_mv ?_
    refine L_as ?_
    refine L_nil ?_
    refine E_n ?_
    refine C_ret ?_
    show bodyPost Try.prog Try.f25 (Rt Q) .ret _ _
    exact post_tmps (ts := [2]) (.inr rfl) rfl h
  · refine C_skip ?_
    refine E_n ?_
    refine wp_seq ?_
    refine wp_seq ?_
    refine L_region ?_
    refine L_mv ?_
    refine L_u (P_nc h) ?_
    intro v w h
    refine L_u (P_fa fo60_1 h) ?_
    intro v w h
    refine L_u (P_ld sc58 h) ?_
    intro v w h
    refine L_u (P_sm rfl h) ?_
    intro v w h
    refine L_nil ?_
    refine E_n ?_
    refine C_join (fun (k : Value → M) (ρ : Nat → Value) => k (ρ 0)) h (fun j1 J1 h => ?_) (fun ρ w h => ?_)
    · refine C_blk ?_
      refine C_lo (fun (l : Value → Value → M) (ρ : Nat → Value) => l (ρ 0) (ρ 15)) h (fun ρ w h => h) (fun nx self2 L2 ρ w h => ?_)
      unfold f25_b2 at h
      refine wp_seq ?_
      refine L_region ?_
      refine L_u (P_sm rfl h) ?_
      intro v w h
      refine L_u (P_ex h) ?_
      intro v w h
      refine L_nil ?_
      refine E_n ?_
      refine wp_seq ?_
      refine C_cnd h (fun h => ?_) (fun h => ?_)
      · refine C_skip ?_
        refine E_n ?_
        refine C_blk ?_
        refine wp_seq ?_
        refine L_region ?_
        refine L_u (P_smr rfl h) ?_
        intro v w h
        refine L_u (P_ex h) ?_
        intro v w h
        refine L_u (P_ex h) ?_
        intro v w h
        refine L_u (P_al ze63 rfl h) ?_
        intro v w h
        refine L_as ?_
        refine L_u (P_stn ag63 h) ?_
        intro w h
        refine L_nil ?_
        refine E_n ?_
        refine D_region (by decide +kernel) 8 rfl ?_
        replace h := dr_e h
        refine G_p 0 rfl (by decide +kernel) (Y_mv h) ?_
        intro v h
        refine G_p 1 rfl (by decide +kernel) (Y_nc h) ?_
        intro v h
        refine G_p 2 rfl (by decide +kernel) (Y_fa fo60_0 h) ?_
        intro v h
        refine G_r _ 3 rfl (by decide +kernel) (R_ld sc57 h) ?_
        intro v h
        refine G_p 4 rfl (by decide +kernel) (Y_mv h) ?_
        intro v h
        refine G_r _ 5 rfl (by decide +kernel) (R_ldn ag63 h) ?_
        intro v h
        refine G_p 6 rfl (by decide +kernel) (Y_ia se57 h) ?_
        intro v h
        refine G_e 7 rfl (by decide +kernel) (P_stn ag63 h ?_)
        intro w h
        refine ⟨keepF_dep [5] (by decide +kernel) rfl (keepF_dep [3] (by decide +kernel) rfl keepF_nil), ?_⟩
        refine G_done (by decide +kernel) ?_
        refine B_n ?_
        refine E_n ?_
        exact L2 _ _ h
      · refine C_exit ?_
        refine E_x ?_
        refine E_x ?_
        refine B_x ?_
        exact J1 _ _ h
    · unfold f25_j1 at h
      refine E_n ?_
      refine wp_seq ?_
      refine L_region ?_
      refine L_mv ?_
      refine L_u (P_nc h) ?_
      intro v w h
      refine L_u (P_fa fo60_1 h) ?_
      intro v w h
      refine L_u (P_ld sc58 h) ?_
      intro v w h
      refine L_u (N_bin rfl h) ?_
      intro w h
      refine L_nil ?_
      refine E_n ?_
      refine wp_seq ?_
      refine L_region ?_
      refine L_as ?_
      refine L_nil ?_
      refine E_n ?_
      refine C_ret ?_
      show bodyPost Try.prog Try.f25 (Rt Q) .ret _ _
      exact post_tmps (ts := [2]) (.inr rfl) rfl h

/- (*factotum/device.Device).Write -/
def f28 (t0 t1 t2 : Value) : M :=
  cl (f35 t0) fun t10 =>
  nei .i64 t10 (.int .i64 0) fun t12 =>
  cnd t12 (
    rt t10
    ) (
    lt .i64 t1 (.int .i64 0) fun t16 =>
    gd t16 false (idv t1) fun t18 =>
    gd t16 false (idv t0) fun t19 =>
    gd t16 false (nc t19) fun t20 =>
    gd t16 false (fa 0 t20) fun t21 =>
    gd t16 false (ld t21) fun t22 =>
    gd t16 false (lnl t22) fun t23 =>
    gd t16 false (ge .i64 t18 t23) fun t24 =>
    pk t16 (.bool true) t24 fun t25 =>
    cnd t25 (
      rt (.int .i64 7)
      ) (
      lns t2 fun t28 =>
      gt .i64 t28 (.int .i64 64) fun t29 =>
      cnd t29 (
        rt (.int .i64 3)
        ) (
        al 63 (Array.replicate 64 (.int .u8 0)) fun t8 =>
        sla 64 1 t8 none none fun t30 =>
        sm Try.prog (Builtin.copy_ #[61, 9] 3 #[t30, t2]) fun t32 =>
        dr <|
        idv t0 fun t33 =>
        nc t33 fun t34 =>
        fa 1 t34 fun t35 =>
        ld t35 fun t36 =>
        idv t1 fun t37 =>
        ldn 64 t8 fun t38 =>
        smu Try.prog (Instr.mapUpdate 58 t36 t37 t38) <|
        rt (.int .i64 0)
        )
      )
    )
theorem s28 (t0 t1 t2 : Value) (w : World) (Q : Value → World → Prop) (h : f28 t0 t1 t2 w Q) : Calls Try.prog 28 #[t0, t1, t2] w (Rt Q) := by
  refine calls_of (l := [t0, t1, t2]) Try.func28 rfl Try.ntmps28 (Nat.le_of_ble_eq_true rfl) ?_
  unfold f28 at h
  refine wp_seq ?_
  refine L_region ?_
  refine L_as ?_
  refine L_nil ?_
  refine E_n ?_
  refine wp_seq ?_
  refine wp_seq ?_
  refine L_region ?_
  refine L_mv ?_
  refine L_u (N_cl Try.func35 rfl nn35 (fun w Q h => s35 _ w Q h) h) ?_
  intro v w h
  refine L_as ?_
  refine L_nil ?_
  refine E_n ?_
  refine wp_seq ?_
  refine L_region ?_
  refine L_mv ?_
  refine L_u (P_nei h) ?_
  intro v w h
  refine L_nil ?_
  refine E_n ?_
  refine C_cnd h (fun h => ?_) (fun h => ?_)
  · refine wp_seq ?_
    refine L_region ?_
    refine L_mv ?_
    refine L_as ?_
    refine L_nil ?_
    refine E_n ?_
    refine C_ret ?_
    show bodyPost Try.prog Try.f28 (Rt Q) .ret _ _
    exact post_tmps (ts := [6]) (.inr rfl) rfl h
  · refine C_skip ?_
    refine E_n ?_
    refine wp_seq ?_
    refine C_blk ?_
    refine wp_seq ?_
    refine L_region ?_
    refine L_mv ?_
    refine L_u (P_lt h) ?_
    intro v w h
    refine L_mv ?_
    refine L_g (t := 17) h rfl rfl (fun c h => P_mv h c) ?_
    intro v w h
    refine L_g (t := 17) h rfl rfl (fun c h => P_mv h c) ?_
    intro v w h
    refine L_g (t := 17) h rfl rfl (fun c h => P_nc h c) ?_
    intro v w h
    refine L_g (t := 17) h rfl rfl (fun c h => P_fa fo60_0 h c) ?_
    intro v w h
    refine L_g (t := 17) h rfl rfl (fun c h => P_ld sc57 h c) ?_
    intro v w h
    refine L_g (t := 17) h rfl rfl (fun c h => P_lnl is57 h c) ?_
    intro v w h
    refine L_g (t := 17) h rfl rfl (fun c h => P_ge h c) ?_
    intro v w h
    refine L_u (P_pk h) ?_
    intro v w h
    refine L_as ?_
    refine L_nil ?_
    refine E_n ?_
    refine C_cnd h (fun h => ?_) (fun h => ?_)
    · refine wp_seq ?_
      refine L_region ?_
      refine L_as ?_
      refine L_nil ?_
      refine E_n ?_
      refine C_ret ?_
      show bodyPost Try.prog Try.f28 (Rt Q) .ret _ _
      exact post_tmps (ts := [6]) (.inr rfl) rfl h
    · refine wp_seq ?_
      refine L_region ?_
      refine L_mv ?_
      refine L_u (P_lns st9 h) ?_
      intro v w h
      refine L_u (P_gt h) ?_
      intro v w h
      refine L_as ?_
      refine L_nil ?_
      refine E_n ?_
      refine C_cnd h (fun h => ?_) (fun h => ?_)
      · refine wp_seq ?_
        refine L_region ?_
        refine L_as ?_
        refine L_nil ?_
        refine E_n ?_
        refine C_ret ?_
        show bodyPost Try.prog Try.f28 (Rt Q) .ret _ _
        exact post_tmps (ts := [6]) (.inr rfl) rfl h
      · refine C_skip ?_
        refine B_n ?_
        refine E_n ?_
        refine wp_seq ?_
        refine L_region ?_
        refine L_u (P_al ze63 rfl h) ?_
        intro v w h
        refine L_nil ?_
        refine E_n ?_
        refine wp_seq ?_
        refine L_region ?_
        refine L_u (P_sla ae63 h) ?_
        intro v w h
        refine L_mv ?_
        refine L_u (N_bi rfl h) ?_
        intro v w h
        refine L_nil ?_
        refine E_n ?_
        refine wp_seq ?_
        refine D_region (by decide +kernel) 7 rfl ?_
        replace h := dr_e h
        refine G_p 0 rfl (by decide +kernel) (Y_mv h) ?_
        intro v h
        refine G_p 1 rfl (by decide +kernel) (Y_nc h) ?_
        intro v h
        refine G_p 2 rfl (by decide +kernel) (Y_fa fo60_1 h) ?_
        intro v h
        refine G_r _ 3 rfl (by decide +kernel) (R_ld sc58 h) ?_
        intro v h
        refine G_p 4 rfl (by decide +kernel) (Y_mv h) ?_
        intro v h
        refine G_r _ 5 rfl (by decide +kernel) (R_ldn ag63 h) ?_
        intro v h
        refine G_e 6 rfl (by decide +kernel) (P_smu rfl h ?_)
        intro w h
        refine ⟨keepF_dep [5] (by decide +kernel) rfl (keepF_dep [3] (by decide +kernel) rfl keepF_nil), ?_⟩
        refine G_done (by decide +kernel) ?_
        refine E_n ?_
        refine wp_seq ?_
        refine L_region ?_
        refine L_as ?_
        refine L_nil ?_
        refine E_n ?_
        refine C_ret ?_
        show bodyPost Try.prog Try.f28 (Rt Q) .ret _ _
        exact post_tmps (ts := [6]) (.inr rfl) rfl h

/- factotum/factotumlaw04.lives -/
def f9 : M :=
  cl (f10 (.int .i64 2)) fun t2 =>
  smr Try.prog (do eqGuard .eql 23 (.tmp 3) (.const (.pointer none)) t2 (.pointer none); binOp .eql 23 t2 (.pointer none)) fun t4 =>
  gd t4 false (idv t2) fun t6 =>
  gd t4 false (cl (f28 t6 (.int .i64 0) (.string ⟨#[97]⟩))) fun t7 =>
  gd t4 false (nei .i64 t7 (.int .i64 0)) fun t8 =>
  pk t4 (.bool true) t8 fun t9 =>
  gd t9 false (idv t2) fun t11 =>
  gd t9 false (cl (f25 t11)) fun t12 =>
  gd t9 false (nei .i64 t12 (.int .i64 0)) fun t13 =>
  pk t9 (.bool true) t13 fun t14 =>
  gd t14 false (idv t2) fun t16 =>
  gd t14 false (cl (f28 t16 (.int .i64 0) (.string ⟨#[98]⟩))) fun t17 =>
  gd t14 false (nei .i64 t17 (.int .i64 0)) fun t18 =>
  pk t14 (.bool true) t18 fun t19 =>
  gd t19 false (idv t2) fun t21 =>
  gd t19 false (cl (f13 t21 (.int .i64 0))) fun t22 =>
  gd t19 false (cl (f12 (.string ⟨#[98]⟩))) fun t23 =>
  gd t19 false (nes t22 t23) fun t24 =>
  pk t19 (.bool true) t24 fun t25 =>
  cnd t25 (
    rt (.bool false)
    ) (
    cl (f24 t2 (.slice none 0 0) (.int .i64 (-1)) (.int .i64 0)) fun t27 =>
    cl (f13 t2 (.int .i64 0)) fun t29 =>
    cl (f12 (.string ⟨#[97]⟩)) fun t30 =>
    eqs t29 t30 fun t31 =>
    gd t31 true (idv t2) fun t33 =>
    gd t31 true (cl (f11 t33)) fun t34 =>
    gd t31 true (eqi .i64 t34 (.int .i64 2)) fun t35 =>
    pk t31 t35 (.bool false) fun t36 =>
    gd t36 true (idv t2) fun t38 =>
    gd t36 true (cl (f15 t38)) fun t39 =>
    gd t36 true (eqi .i64 t39 (.int .i64 3)) fun t40 =>
    pk t36 t40 (.bool false) fun t41 =>
    rt t41
    )
theorem s9 (w : World) (Q : Value → World → Prop) (h : f9 w Q) : Calls Try.prog 9 #[] w (Rt Q) := by
  refine calls_of (l := []) Try.func9 rfl Try.ntmps9 (Nat.le_of_ble_eq_true rfl) ?_
  unfold f9 at h
  refine wp_seq ?_
  refine L_region ?_
  refine L_as ?_
  refine L_nil ?_
  refine E_n ?_
  refine wp_seq ?_
  refine L_region ?_
  refine L_u (N_cl Try.func10 rfl nn10 (fun w Q h => s10 _ w Q h) h) ?_
  intro v w h
  refine L_as ?_
  refine L_nil ?_
  refine E_n ?_
  refine wp_seq ?_
  refine wp_seq ?_
  refine L_region ?_
  refine L_mv ?_
  refine L_u (P_smr rfl h) ?_
  intro v w h
  refine L_mv ?_
  refine L_g (t := 5) h rfl rfl (fun c h => P_mv h c) ?_
  intro v w h
  refine L_g (t := 5) h rfl rfl (fun c h => N_cl Try.func28 rfl nn28 (fun w Q h => s28 _ _ _ w Q h) h c) ?_
  intro v w h
  refine L_g (t := 5) h rfl rfl (fun c h => P_nei h c) ?_
  intro v w h
  refine L_u (P_pk h) ?_
  intro v w h
  refine L_mv ?_
  refine L_g (t := 10) h rfl rfl (fun c h => P_mv h c) ?_
  intro v w h
  refine L_g (t := 10) h rfl rfl (fun c h => N_cl Try.func25 rfl nn25 (fun w Q h => s25 _ w Q h) h c) ?_
  intro v w h
  refine L_g (t := 10) h rfl rfl (fun c h => P_nei h c) ?_
  intro v w h
  refine L_u (P_pk h) ?_
  intro v w h
  refine L_mv ?_
  refine L_g (t := 15) h rfl rfl (fun c h => P_mv h c) ?_
  intro v w h
  refine L_g (t := 15) h rfl rfl (fun c h => N_cl Try.func28 rfl nn28 (fun w Q h => s28 _ _ _ w Q h) h c) ?_
  intro v w h
  refine L_g (t := 15) h rfl rfl (fun c h => P_nei h c) ?_
  intro v w h
  refine L_u (P_pk h) ?_
  intro v w h
  refine L_mv ?_
  refine L_g (t := 20) h rfl rfl (fun c h => P_mv h c) ?_
  intro v w h
  refine L_g (t := 20) h rfl rfl (fun c h => N_cl Try.func13 rfl nn13 (fun w Q h => s13 _ _ w Q h) h c) ?_
  intro v w h
  refine L_g (t := 20) h rfl rfl (fun c h => N_cl Try.func12 rfl nn12 (fun w Q h => s12 _ w Q h) h c) ?_
  intro v w h
  refine L_g (t := 20) h rfl rfl (fun c h => P_nes h c) ?_
  intro v w h
  refine L_u (P_pk h) ?_
  intro v w h
  refine L_nil ?_
  refine E_n ?_
  refine C_cnd h (fun h => ?_) (fun h => ?_)
  · refine wp_seq ?_
    refine L_region ?_
    refine L_as ?_
    refine L_nil ?_
    refine E_n ?_
    refine C_ret ?_
    show bodyPost Try.prog Try.f9 (Rt Q) .ret _ _
    exact post_tmps (ts := [0]) (.inr rfl) rfl h
  · refine C_skip ?_
    refine E_n ?_
    refine wp_seq ?_
    refine L_region ?_
    refine L_mv ?_
    refine L_u (N_cl Try.func24 rfl nn24 (fun w Q h => s24 _ _ _ _ w Q h) h) ?_
    intro v w h
    refine L_nil ?_
    refine E_n ?_
    refine wp_seq ?_
    refine L_region ?_
    refine L_mv ?_
    refine L_u (N_cl Try.func13 rfl nn13 (fun w Q h => s13 _ _ w Q h) h) ?_
    intro v w h
    refine L_u (N_cl Try.func12 rfl nn12 (fun w Q h => s12 _ w Q h) h) ?_
    intro v w h
    refine L_u (P_eqs h) ?_
    intro v w h
    refine L_mv ?_
    refine L_g (t := 32) h rfl rfl (fun c h => P_mv h c) ?_
    intro v w h
    refine L_g (t := 32) h rfl rfl (fun c h => N_cl Try.func11 rfl nn11 (fun w Q h => s11 _ w Q h) h c) ?_
    intro v w h
    refine L_g (t := 32) h rfl rfl (fun c h => P_eqi h c) ?_
    intro v w h
    refine L_u (P_pk h) ?_
    intro v w h
    refine L_mv ?_
    refine L_g (t := 37) h rfl rfl (fun c h => P_mv h c) ?_
    intro v w h
    refine L_g (t := 37) h rfl rfl (fun c h => N_cl Try.func15 rfl nn15 (fun w Q h => s15 _ w Q h) h c) ?_
    intro v w h
    refine L_g (t := 37) h rfl rfl (fun c h => P_eqi h c) ?_
    intro v w h
    refine L_u (P_pk h) ?_
    intro v w h
    refine L_as ?_
    refine L_nil ?_
    refine E_n ?_
    refine C_ret ?_
    show bodyPost Try.prog Try.f9 (Rt Q) .ret _ _
    exact post_tmps (ts := [0]) (.inr rfl) rfl h

/- factotum/factotumlaw04.DeviceSizes -/
def f3_j1 (t0_1 t5 t6 t7 : Value) : M :=
  cl (f11 t5) fun t22 =>
  mxm t0_1 (.int .i64 0) fun t24 =>
  mnm t24 (.int .i64 4096) fun t25 =>
  eqi .i64 t22 t25 fun t26 =>
  gd t26 true (idv t5) fun t28 =>
  gd t26 true (idv t6) fun t29 =>
  gd t26 true (cl (f13 t28 t29)) fun t30 =>
  gd t26 true (idv t7) fun t31 =>
  gd t26 true (eqs t30 t31) fun t32 =>
  pk t26 t32 (.bool false) fun t33 =>
  gd t33 true (idv t5) fun t35 =>
  gd t33 true (cl (f14 t35)) fun t36 =>
  gd t33 true (lnl t36) fun t37 =>
  gd t33 true (eqi .i64 t37 (.int .i64 0)) fun t38 =>
  pk t33 t38 (.bool false) fun t39 =>
  gd t39 true (idv t5) fun t41 =>
  gd t39 true (cl (f15 t41)) fun t42 =>
  gd t39 true (eqi .i64 t42 (.int .i64 0)) fun t43 =>
  pk t39 t43 (.bool false) fun t44 =>
  rt t44
def f3 (t0 t1 : Value) : M :=
  cl (f9) fun t8 =>
  nt t8 fun t9 =>
  cnd t9 (
    rt (.bool false)
    ) (
    cl (f10 t0) fun t11 =>
    cv .u64 t1 fun t13 =>
    re .u64 t13 (.int .u64 4097) fun t14 =>
    cv .i64 t14 fun t15 =>
    cl (f11 t11) fun t18 =>
    lt .i64 t15 t18 fun t19 =>
    jn (fun (j1 : Value → Value → Value → Value → M) =>
      cnd t19 (
        cl (f12 (.string ⟨#[]⟩)) fun t20 =>
        j1 t0 t11 t15 t20
        ) (
        j1 t0 t11 t15 (.string ⟨#[]⟩)
        )
      ) (f3_j1)
    )
theorem s3 (t0 t1 : Value) (w : World) (Q : Value → World → Prop) (h : f3 t0 t1 w Q) : Calls Try.prog 3 #[t0, t1] w (Rt Q) := by
  refine calls_of (l := [t0, t1]) Try.func3 rfl Try.ntmps3 (Nat.le_of_ble_eq_true rfl) ?_
  unfold f3 at h
  refine wp_seq ?_
  refine L_region ?_
  refine L_as ?_
  refine L_nil ?_
  refine E_n ?_
  refine wp_seq ?_
  refine wp_seq ?_
  refine L_region ?_
  refine L_u (N_cl Try.func9 rfl nn9 (fun w Q h => s9 w Q h) h) ?_
  intro v w h
  refine L_u (P_nt h) ?_
  intro v w h
  refine L_nil ?_
  refine E_n ?_
  refine C_cnd h (fun h => ?_) (fun h => ?_)
  · refine wp_seq ?_
    refine L_region ?_
    refine L_as ?_
    refine L_nil ?_
    refine E_n ?_
    refine C_ret ?_
    show bodyPost Try.prog Try.f3 (Rt Q) .ret _ _
    exact post_tmps (ts := [4]) (.inr rfl) rfl h
  · refine C_skip ?_
    refine E_n ?_
    refine wp_seq ?_
    refine L_region ?_
    refine L_mv ?_
    refine L_u (N_cl Try.func10 rfl nn10 (fun w Q h => s10 _ w Q h) h) ?_
    intro v w h
    refine L_as ?_
    refine L_nil ?_
    refine E_n ?_
    refine wp_seq ?_
    refine L_region ?_
    refine L_mv ?_
    refine L_u (P_cv ai3 in25 h) ?_
    intro v w h
    refine L_u (P_re h) ?_
    intro v w h
    refine L_u (P_cv ai25 in3 h) ?_
    intro v w h
    refine L_as ?_
    refine L_nil ?_
    refine E_n ?_
    refine wp_seq ?_
    refine L_region ?_
    refine L_as ?_
    refine L_nil ?_
    refine E_n ?_
    refine wp_seq ?_
    refine wp_seq ?_
    refine L_region ?_
    refine L_mv ?_
    refine L_mv ?_
    refine L_u (N_cl Try.func11 rfl nn11 (fun w Q h => s11 _ w Q h) h) ?_
    intro v w h
    refine L_u (P_lt h) ?_
    intro v w h
    refine L_nil ?_
    refine E_n ?_
    refine C_join (fun (k : Value → Value → Value → Value → M) (ρ : Nat → Value) => k (ρ 0) (ρ 5) (ρ 6) (ρ 7)) h (fun j1 J1 h => ?_) (fun ρ w h => ?_)
    · refine C_cnd h (fun h => ?_) (fun h => ?_)
      · refine L_region ?_
        refine L_u (N_cl Try.func12 rfl nn12 (fun w Q h => s12 _ w Q h) h) ?_
        intro v w h
        refine L_as ?_
        refine L_nil ?_
        exact J1 _ _ h
      · refine C_skip ?_
        exact J1 _ _ h
    · unfold f3_j1 at h
      refine E_n ?_
      refine wp_seq ?_
      refine L_region ?_
      refine L_mv ?_
      refine L_u (N_cl Try.func11 rfl nn11 (fun w Q h => s11 _ w Q h) h) ?_
      intro v w h
      refine L_mv ?_
      refine L_u (P_mxm (t := 0) h) ?_
      intro v w h
      refine L_u (P_mnm (t := 0) h) ?_
      intro v w h
      refine L_u (P_eqi h) ?_
      intro v w h
      refine L_mv ?_
      refine L_g (t := 27) h rfl rfl (fun c h => P_mv h c) ?_
      intro v w h
      refine L_g (t := 27) h rfl rfl (fun c h => P_mv h c) ?_
      intro v w h
      refine L_g (t := 27) h rfl rfl (fun c h => N_cl Try.func13 rfl nn13 (fun w Q h => s13 _ _ w Q h) h c) ?_
      intro v w h
      refine L_g (t := 27) h rfl rfl (fun c h => P_mv h c) ?_
      intro v w h
      refine L_g (t := 27) h rfl rfl (fun c h => P_eqs h c) ?_
      intro v w h
      refine L_u (P_pk h) ?_
      intro v w h
      refine L_mv ?_
      refine L_g (t := 34) h rfl rfl (fun c h => P_mv h c) ?_
      intro v w h
      refine L_g (t := 34) h rfl rfl (fun c h => N_cl Try.func14 rfl nn14 (fun w Q h => s14 _ w Q h) h c) ?_
      intro v w h
      refine L_g (t := 34) h rfl rfl (fun c h => P_lnl is29 h c) ?_
      intro v w h
      refine L_g (t := 34) h rfl rfl (fun c h => P_eqi h c) ?_
      intro v w h
      refine L_u (P_pk h) ?_
      intro v w h
      refine L_mv ?_
      refine L_g (t := 40) h rfl rfl (fun c h => P_mv h c) ?_
      intro v w h
      refine L_g (t := 40) h rfl rfl (fun c h => N_cl Try.func15 rfl nn15 (fun w Q h => s15 _ w Q h) h c) ?_
      intro v w h
      refine L_g (t := 40) h rfl rfl (fun c h => P_eqi h c) ?_
      intro v w h
      refine L_u (P_pk h) ?_
      intro v w h
      refine L_as ?_
      refine L_nil ?_
      refine E_n ?_
      refine C_ret ?_
      show bodyPost Try.prog Try.f3 (Rt Q) .ret _ _
      exact post_tmps (ts := [4]) (.inr rfl) rfl h

/- factotum/factotumlaw04.early -/
def f16 (t0 : Value) : M :=
  lnl t0 fun t5 =>
  mnm t5 (.int .i64 300) fun t6 =>
  sll 5 t0 none (some t6) fun t7 =>
  rt t7
theorem s16 (t0 : Value) (w : World) (Q : Value → World → Prop) (h : f16 t0 w Q) : Calls Try.prog 16 #[t0] w (Rt Q) := by
  refine calls_of (l := [t0]) Try.func16 rfl Try.ntmps16 (Nat.le_of_ble_eq_true rfl) ?_
  unfold f16 at h
  refine wp_seq ?_
  refine L_region ?_
  refine L_as ?_
  refine L_nil ?_
  refine E_n ?_
  refine wp_seq ?_
  refine L_region ?_
  refine L_mv ?_
  refine L_mv ?_
  refine L_u (P_lnl is32 h) ?_
  intro v w h
  refine L_u (P_mnm (t := 0) h) ?_
  intro v w h
  refine L_u (P_sll se32 h) ?_
  intro v w h
  refine L_as ?_
  refine L_nil ?_
  refine E_n ?_
  refine C_ret ?_
  show bodyPost Try.prog Try.f16 (Rt Q) .ret _ _
  exact post_tmps (ts := [2]) (.inr rfl) rfl h

/- factotum/factotumref04.New -/
def f17_b2 (j1 : Value → M) (self2 : Value → Value → Value → M) (t0_1 t3 t4 : Value) : M :=
  lt .i64 t4 t0_1 fun t12 =>
  cnd t12 (
    dr <|
    idv t3 fun t15 =>
    idv t3 fun t16 =>
    nc t16 fun t17 =>
    fa 0 t17 fun t18 =>
    ld t18 fun t19 =>
    cl (f12 (.string ⟨#[]⟩)) fun t20 =>
    kp (Kld t18 t19) <|
    cl (f12 (.string ⟨#[]⟩)) fun t21 =>
    kp (Kld t18 t19) <|
    smr Try.prog (Instr.build 70 #[(0, t20), (1, t21)]) fun t22 =>
    sm Try.prog (Instr.buildSlice 42 1 #[(0, t22)]) fun t23 =>
    kp (Kld t18 t19) <|
    sm Try.prog (Builtin.append_ #[42, 42] 42 #[t19, t23]) fun t24 =>
    nc t15 fun t25 =>
    fa 0 t25 fun t26 =>
    st t26 t24 <|
    ad .i64 t4 (.int .i64 1) fun t14 =>
    self2 t0_1 t3 t14
    ) (
    j1 t3
    )
def f17_j1 (t3_1 : Value) : M :=
  rt t3_1
def f17 (t0 : Value) : M :=
  mxm t0 (.int .i64 0) fun t6 =>
  mnm t6 (.int .i64 4096) fun t7 =>
  smr Try.prog (Instr.build 44 #[(2, (.int .i64 (-1)))]) fun t8 =>
  bx 44 t8 fun t9 =>
  jn (fun (j1 : Value → M) =>
    lo (fun _ _ _ => bot) (f17_b2 j1) (fun l => l t7 t9 (.int .i64 0))
    ) (f17_j1)
theorem s17 (t0 : Value) (w : World) (Q : Value → World → Prop) (h : f17 t0 w Q) : Calls Try.prog 17 #[t0] w (Rt Q) := by
  refine calls_of (l := [t0]) Try.func17 rfl Try.ntmps17 (Nat.le_of_ble_eq_true rfl) ?_
  unfold f17 at h
  refine wp_seq ?_
  refine L_region ?_
  refine L_as ?_
  refine L_nil ?_
  refine E_n ?_
  refine wp_seq ?_
  refine L_region ?_
  refine L_mv ?_
  refine L_u (P_mxm (t := 0) h) ?_
  intro v w h
  refine L_u (P_mnm (t := 0) h) ?_
  intro v w h
  refine L_as ?_
  refine L_nil ?_
  refine E_n ?_
  refine wp_seq ?_
  refine L_region ?_
  refine L_u (N_bld h) ?_
  intro v w h
  refine L_u (P_bx h) ?_
  intro v w h
  refine L_as ?_
  refine L_nil ?_
  refine E_n ?_
  refine wp_seq ?_
  refine wp_seq ?_
  refine L_region ?_
  refine L_as ?_
  refine L_nil ?_
  refine E_n ?_
  refine C_join (fun (k : Value → M) (ρ : Nat → Value) => k (ρ 3)) h (fun j1 J1 h => ?_) (fun ρ w h => ?_)
  · refine C_blk ?_
    refine C_lo (fun (l : Value → Value → Value → M) (ρ : Nat → Value) => l (ρ 0) (ρ 3) (ρ 4)) h (fun ρ w h => h) (fun nx self2 L2 ρ w h => ?_)
    unfold f17_b2 at h
    refine wp_seq ?_
    refine wp_seq ?_
    refine L_region ?_
    refine L_mv ?_
    refine L_mv ?_
    refine L_u (P_lt h) ?_
    intro v w h
    refine L_nil ?_
    refine E_n ?_
    refine C_cnd h (fun h => ?_) (fun h => ?_)
    · refine C_skip ?_
      refine E_n ?_
      refine wp_seq ?_
      refine C_blk ?_
      refine D_region (by decide +kernel) 13 rfl ?_
      replace h := dr_e h
      refine G_p 0 rfl (by decide +kernel) (Y_mv h) ?_
      intro v h
      refine G_p 1 rfl (by decide +kernel) (Y_mv h) ?_
      intro v h
      refine G_p 2 rfl (by decide +kernel) (Y_nc h) ?_
      intro v h
      refine G_p 3 rfl (by decide +kernel) (Y_fa fo44_0 h) ?_
      intro v h
      refine G_r _ 4 rfl (by decide +kernel) (R_ld sc42 h) ?_
      intro v h
      refine G_e 5 rfl (by decide +kernel) (N_cl Try.func12 rfl nn12 (fun w Q h => s12 _ w Q h) h ?_)
      intro v w h
      refine ⟨keepF_cons (kp_1 h) keepF_nil, ?_⟩
      replace h := (kp_2 h)
      refine G_e 6 rfl (by decide +kernel) (N_cl Try.func12 rfl nn12 (fun w Q h => s12 _ w Q h) h ?_)
      intro v w h
      refine ⟨keepF_cons (kp_1 h) keepF_nil, ?_⟩
      replace h := (kp_2 h)
      refine G_r _ 7 rfl (by decide +kernel) (R_bld h) ?_
      intro v h
      refine G_e 8 rfl (by decide +kernel) (N_bsl h ?_)
      intro v w h
      refine ⟨keepF_dep [7] (by decide +kernel) rfl (keepF_cons (kp_1 h) keepF_nil), ?_⟩
      replace h := (kp_2 h)
      refine G_e 9 rfl (by decide +kernel) (N_bi rfl h ?_)
      intro v w h
      refine ⟨keepF_dep [8, 7] (by decide +kernel) rfl (keepF_dep [4] (by decide +kernel) rfl keepF_nil), ?_⟩
      refine G_p 10 rfl (by decide +kernel) (Y_nc h) ?_
      intro v h
      refine G_p 11 rfl (by decide +kernel) (Y_fa fo44_0 h) ?_
      intro v h
      refine G_e 12 rfl (by decide +kernel) (P_st on42 h ?_)
      intro w h
      refine ⟨keepF_dep [7] (by decide +kernel) rfl (keepF_dep [4] (by decide +kernel) rfl keepF_nil), ?_⟩
      refine G_done (by decide +kernel) ?_
      refine B_n ?_
      refine E_n ?_
      refine L_region ?_
      refine L_mv ?_
      refine L_u (P_ad h) ?_
      intro v w h
      refine L_as ?_
      refine L_nil ?_
      refine E_n ?_
      exact L2 _ _ h
    · refine C_exit ?_
      refine E_x ?_
      refine E_x ?_
      refine B_x ?_
      exact J1 _ _ h
  · unfold f17_j1 at h
    refine E_n ?_
    refine wp_seq ?_
    refine L_region ?_
    refine L_mv ?_
    refine L_as ?_
    refine L_nil ?_
    refine E_n ?_
    refine C_ret ?_
    show bodyPost Try.prog Try.f17 (Rt Q) .ret _ _
    exact post_tmps (ts := [2]) (.inr rfl) rfl h

/- (factotum/factotumlaw04.Op).kind -/
def f26 (t0 : Value) : M :=
  bx 40 t0 fun t1 =>
  fa 0 t1 fun t3 =>
  ld t3 fun t4 =>
  cv .u64 t4 fun t5 =>
  re .u64 t5 (.int .u64 4) fun t6 =>
  cv .i64 t6 fun t7 =>
  rt t7
theorem s26 (t0 : Value) (w : World) (Q : Value → World → Prop) (h : f26 t0 w Q) : Calls Try.prog 26 #[t0] w (Rt Q) := by
  refine calls_of (l := [t0]) Try.func26 rfl Try.ntmps26 (Nat.le_of_ble_eq_true rfl) ?_
  unfold f26 at h
  refine wp_seq ?_
  refine L_region ?_
  refine L_u (P_bx h) ?_
  intro v w h
  refine L_as ?_
  refine L_nil ?_
  refine E_n ?_
  refine wp_seq ?_
  refine L_region ?_
  refine L_u (P_fa fo40_0 h) ?_
  intro v w h
  refine L_u (P_ld sc3 h) ?_
  intro v w h
  refine L_u (P_cv ai3 in25 h) ?_
  intro v w h
  refine L_u (P_re h) ?_
  intro v w h
  refine L_u (P_cv ai25 in3 h) ?_
  intro v w h
  refine L_as ?_
  refine L_nil ?_
  refine E_n ?_
  refine C_ret ?_
  show bodyPost Try.prog Try.f26 (Rt Q) .ret _ _
  exact post_tmps (ts := [2]) (.inr rfl) rfl h

/- (*factotum/device.Device).Stop -/
def f27 (t0 t1 : Value) : M :=
  smr Try.prog (do eqGuard .eql 23 (.tmp 14) (.const (.pointer none)) t0 (.pointer none); binOp .eql 23 t0 (.pointer none)) fun t15 =>
  cnd t15 (
    rt (.tuple #[])
    ) (
    lt .i64 t1 (.int .i64 0) fun t18 =>
    gd t18 false (idv t1) fun t20 =>
    gd t18 false (gt .i64 t20 (.int .i64 1099511627776)) fun t21 =>
    pk t18 (.bool true) t21 fun t22 =>
    cnd t22 (
      nc t0 fun t24 =>
      fa 3 t24 fun t25 =>
      st t25 (.int .i64 4611686018427387904) <|
      rt (.tuple #[])
      ) (
      nc t0 fun t6 =>
      fa 2 t6 fun t7 =>
      ld t7 fun t8 =>
      ad .i64 t8 t1 fun t10 =>
      nc t0 fun t11 =>
      fa 3 t11 fun t12 =>
      st t12 t10 <|
      rt (.tuple #[])
      )
    )
theorem s27 (t0 t1 : Value) (w : World) (Q : Value → World → Prop) (h : f27 t0 t1 w Q) : Calls Try.prog 27 #[t0, t1] w (Rt Q) := by
  refine calls_of (l := [t0, t1]) Try.func27 rfl Try.ntmps27 (Nat.le_of_ble_eq_true rfl) ?_
  unfold f27 at h
  refine C_blk ?_
  refine wp_seq ?_
  refine L_region ?_
  refine L_mv ?_
  refine L_u (P_smr rfl h) ?_
  intro v w h
  refine L_as ?_
  refine L_nil ?_
  refine E_n ?_
  refine C_cnd h (fun h => ?_) (fun h => ?_)
  · refine C_skip ?_
    refine B_n ?_
    show bodyPost Try.prog Try.f27 (Rt Q) .normal _ _
    exact post_tmps (ts := []) (.inl rfl) rfl h
  · refine wp_seq ?_
    refine L_region ?_
    refine L_mv ?_
    refine L_u (P_lt h) ?_
    intro v w h
    refine L_mv ?_
    refine L_g (t := 19) h rfl rfl (fun c h => P_mv h c) ?_
    intro v w h
    refine L_g (t := 19) h rfl rfl (fun c h => P_gt h c) ?_
    intro v w h
    refine L_u (P_pk h) ?_
    intro v w h
    refine L_as ?_
    refine L_nil ?_
    refine E_n ?_
    refine C_cnd h (fun h => ?_) (fun h => ?_)
    · refine L_region ?_
      refine L_mv ?_
      refine L_u (P_nc h) ?_
      intro v w h
      refine L_u (P_fa fo60_3 h) ?_
      intro v w h
      refine L_u (P_st on3 h) ?_
      intro w h
      refine L_nil ?_
      refine B_n ?_
      show bodyPost Try.prog Try.f27 (Rt Q) .normal _ _
      exact post_tmps (ts := []) (.inl rfl) rfl h
    · refine L_region ?_
      refine L_mv ?_
      refine L_mv ?_
      refine L_u (P_nc h) ?_
      intro v w h
      refine L_u (P_fa fo60_2 h) ?_
      intro v w h
      refine L_u (P_ld sc3 h) ?_
      intro v w h
      refine L_mv ?_
      refine L_u (P_ad h) ?_
      intro v w h
      refine L_u (P_nc h) ?_
      intro v w h
      refine L_u (P_fa fo60_3 h) ?_
      intro v w h
      refine L_u (P_st on3 h) ?_
      intro w h
      refine L_nil ?_
      refine B_n ?_
      show bodyPost Try.prog Try.f27 (Rt Q) .normal _ _
      exact post_tmps (ts := []) (.inl rfl) rfl h

/- factotum/factotumlaw04.does -/
def f18_j1 : M :=
  rt (.int .i64 0)
def f18 (t0 t1 : Value) : M :=
  bx 40 t1 fun t3 =>
  ldn 5 t3 fun t5 =>
  cl (f26 t5) fun t6 =>
  eqi .i64 t6 (.int .i64 0) fun t8 =>
  cnd t8 (
    fa 1 t3 fun t10 =>
    ld t10 fun t11 =>
    fa 2 t3 fun t12 =>
    ld t12 fun t13 =>
    cl (f28 t0 t11 t13) fun t14 =>
    rt t14
    ) (
    eqi .i64 t6 (.int .i64 1) fun t16 =>
    cnd t16 (
      cl (f25 t0) fun t18 =>
      rt t18
      ) (
      eqi .i64 t6 (.int .i64 2) fun t20 =>
      jn (fun (j1 : M) =>
        cnd t20 (
          fa 1 t3 fun t22 =>
          ld t22 fun t23 =>
          cl (f27 t0 t23) fun t24 =>
          j1
          ) (
          eqi .i64 t6 (.int .i64 3) fun t26 =>
          cnd t26 (
            fa 3 t3 fun t28 =>
            ld t28 fun t29 =>
            fa 1 t3 fun t30 =>
            ld t30 fun t31 =>
            fa 4 t3 fun t32 =>
            ld t32 fun t33 =>
            cl (f24 t0 t29 t31 t33) fun t34 =>
            j1
            ) (
            j1
            )
          )
        ) (f18_j1)
      )
    )
theorem s18 (t0 t1 : Value) (w : World) (Q : Value → World → Prop) (h : f18 t0 t1 w Q) : Calls Try.prog 18 #[t0, t1] w (Rt Q) := by
  refine calls_of (l := [t0, t1]) Try.func18 rfl Try.ntmps18 (Nat.le_of_ble_eq_true rfl) ?_
  unfold f18 at h
  refine wp_seq ?_
  refine L_region ?_
  refine L_u (P_bx h) ?_
  intro v w h
  refine L_as ?_
  refine L_nil ?_
  refine E_n ?_
  refine wp_seq ?_
  refine wp_seq ?_
  refine L_region ?_
  refine L_u (P_ldn ag40 h) ?_
  intro v w h
  refine L_u (N_cl Try.func26 rfl nn26 (fun w Q h => s26 _ w Q h) h) ?_
  intro v w h
  refine L_nil ?_
  refine E_n ?_
  refine C_blk ?_
  refine wp_seq ?_
  refine L_region ?_
  refine L_u (P_eqi h) ?_
  intro v w h
  refine L_as ?_
  refine L_nil ?_
  refine E_n ?_
  refine C_cnd h (fun h => ?_) (fun h => ?_)
  · refine wp_seq ?_
    refine L_region ?_
    refine L_mv ?_
    refine L_u (P_fa fo40_1 h) ?_
    intro v w h
    refine L_u (P_ld sc3 h) ?_
    intro v w h
    refine L_u (P_fa fo40_2 h) ?_
    intro v w h
    refine L_u (P_ld sc9 h) ?_
    intro v w h
    refine L_u (N_cl Try.func28 rfl nn28 (fun w Q h => s28 _ _ _ w Q h) h) ?_
    intro v w h
    refine L_as ?_
    refine L_nil ?_
    refine E_n ?_
    refine C_ret ?_
    show bodyPost Try.prog Try.f18 (Rt Q) .ret _ _
    exact post_tmps (ts := [4]) (.inr rfl) rfl h
  · refine wp_seq ?_
    refine L_region ?_
    refine L_u (P_eqi h) ?_
    intro v w h
    refine L_as ?_
    refine L_nil ?_
    refine E_n ?_
    refine C_cnd h (fun h => ?_) (fun h => ?_)
    · refine wp_seq ?_
      refine L_region ?_
      refine L_mv ?_
      refine L_u (N_cl Try.func25 rfl nn25 (fun w Q h => s25 _ w Q h) h) ?_
      intro v w h
      refine L_as ?_
      refine L_nil ?_
      refine E_n ?_
      refine C_ret ?_
      show bodyPost Try.prog Try.f18 (Rt Q) .ret _ _
      exact post_tmps (ts := [4]) (.inr rfl) rfl h
    · refine wp_seq ?_
      refine L_region ?_
      refine L_u (P_eqi h) ?_
      intro v w h
      refine L_as ?_
      refine L_nil ?_
      refine E_n ?_
      refine C_join (fun (k : M) (ρ : Nat → Value) => k) h (fun j1 J1 h => ?_) (fun ρ w h => ?_)
      · refine C_cnd h (fun h => ?_) (fun h => ?_)
        · refine L_region ?_
          refine L_mv ?_
          refine L_u (P_fa fo40_1 h) ?_
          intro v w h
          refine L_u (P_ld sc3 h) ?_
          intro v w h
          refine L_u (N_cl Try.func27 rfl nn27 (fun w Q h => s27 _ _ w Q h) h) ?_
          intro v w h
          refine L_nil ?_
          exact J1 _ _ h
        · refine wp_seq ?_
          refine L_region ?_
          refine L_u (P_eqi h) ?_
          intro v w h
          refine L_as ?_
          refine L_nil ?_
          refine E_n ?_
          refine C_cnd h (fun h => ?_) (fun h => ?_)
          · refine L_region ?_
            refine L_mv ?_
            refine L_u (P_fa fo40_3 h) ?_
            intro v w h
            refine L_u (P_ld sc38 h) ?_
            intro v w h
            refine L_u (P_fa fo40_1 h) ?_
            intro v w h
            refine L_u (P_ld sc3 h) ?_
            intro v w h
            refine L_u (P_fa fo40_4 h) ?_
            intro v w h
            refine L_u (P_ld sc3 h) ?_
            intro v w h
            refine L_u (N_cl Try.func24 rfl nn24 (fun w Q h => s24 _ _ _ _ w Q h) h) ?_
            intro v w h
            refine L_nil ?_
            exact J1 _ _ h
          · refine C_skip ?_
            exact J1 _ _ h
      · unfold f18_j1 at h
        refine B_n ?_
        refine E_n ?_
        refine wp_seq ?_
        refine L_region ?_
        refine L_as ?_
        refine L_nil ?_
        refine E_n ?_
        refine C_ret ?_
        show bodyPost Try.prog Try.f18 (Rt Q) .ret _ _
        exact post_tmps (ts := [4]) (.inr rfl) rfl h

/- (*factotum/factotumref04.Device).call -/
def f39 (t0 : Value) : M :=
  nc t0 fun t5 =>
  fa 1 t5 fun t6 =>
  ld t6 fun t7 =>
  nc t0 fun t9 =>
  fa 1 t9 fun t10 =>
  ld t10 fun t11 =>
  ad .i64 t11 (.int .i64 1) fun t12 =>
  nc t0 fun t13 =>
  fa 1 t13 fun t14 =>
  st t14 t12 <|
  nc t0 fun t16 =>
  fa 2 t16 fun t17 =>
  ld t17 fun t18 =>
  ge .i64 t18 (.int .i64 0) fun t19 =>
  gd t19 true (idv t7) fun t21 =>
  gd t19 true (idv t0) fun t22 =>
  gd t19 true (nc t22) fun t23 =>
  gd t19 true (fa 2 t23) fun t24 =>
  gd t19 true (ld t24) fun t25 =>
  gd t19 true (ge .i64 t21 t25) fun t26 =>
  pk t19 t26 (.bool false) fun t27 =>
  cnd t27 (
    rt (.int .i64 9)
    ) (
    rt (.int .i64 0)
    )
theorem s39 (t0 : Value) (w : World) (Q : Value → World → Prop) (h : f39 t0 w Q) : Calls Try.prog 39 #[t0] w (Rt Q) := by
  refine calls_of (l := [t0]) Try.func39 rfl Try.ntmps39 (Nat.le_of_ble_eq_true rfl) ?_
  unfold f39 at h
  refine wp_seq ?_
  refine L_region ?_
  refine L_as ?_
  refine L_nil ?_
  refine E_n ?_
  refine wp_seq ?_
  refine L_region ?_
  refine L_mv ?_
  refine L_u (P_nc h) ?_
  intro v w h
  refine L_u (P_fa fo44_1 h) ?_
  intro v w h
  refine L_u (P_ld sc3 h) ?_
  intro v w h
  refine L_as ?_
  refine L_nil ?_
  refine E_n ?_
  refine wp_seq ?_
  refine L_region ?_
  refine L_mv ?_
  refine L_u (P_nc h) ?_
  intro v w h
  refine L_u (P_fa fo44_1 h) ?_
  intro v w h
  refine L_u (P_ld sc3 h) ?_
  intro v w h
  refine L_u (P_ad h) ?_
  intro v w h
  refine L_u (P_nc h) ?_
  intro v w h
  refine L_u (P_fa fo44_1 h) ?_
  intro v w h
  refine L_u (P_st on3 h) ?_
  intro w h
  refine L_nil ?_
  refine E_n ?_
  refine wp_seq ?_
  refine wp_seq ?_
  refine L_region ?_
  refine L_mv ?_
  refine L_u (P_nc h) ?_
  intro v w h
  refine L_u (P_fa fo44_2 h) ?_
  intro v w h
  refine L_u (P_ld sc3 h) ?_
  intro v w h
  refine L_u (P_ge h) ?_
  intro v w h
  refine L_mv ?_
  refine L_g (t := 20) h rfl rfl (fun c h => P_mv h c) ?_
  intro v w h
  refine L_g (t := 20) h rfl rfl (fun c h => P_mv h c) ?_
  intro v w h
  refine L_g (t := 20) h rfl rfl (fun c h => P_nc h c) ?_
  intro v w h
  refine L_g (t := 20) h rfl rfl (fun c h => P_fa fo44_2 h c) ?_
  intro v w h
  refine L_g (t := 20) h rfl rfl (fun c h => P_ld sc3 h c) ?_
  intro v w h
  refine L_g (t := 20) h rfl rfl (fun c h => P_ge h c) ?_
  intro v w h
  refine L_u (P_pk h) ?_
  intro v w h
  refine L_nil ?_
  refine E_n ?_
  refine C_cnd h (fun h => ?_) (fun h => ?_)
  · refine wp_seq ?_
    refine L_region ?_
    refine L_as ?_
    refine L_nil ?_
    refine E_n ?_
    refine C_ret ?_
    show bodyPost Try.prog Try.f39 (Rt Q) .ret _ _
    exact post_tmps (ts := [2]) (.inr rfl) rfl h
  · refine C_skip ?_
    refine E_n ?_
    refine wp_seq ?_
    refine L_region ?_
    refine L_as ?_
    refine L_nil ?_
    refine E_n ?_
    refine C_ret ?_
    show bodyPost Try.prog Try.f39 (Rt Q) .ret _ _
    exact post_tmps (ts := [2]) (.inr rfl) rfl h

/- (*factotum/factotumref04.Device).Write -/
def f31 (t0 t1 t2 : Value) : M :=
  cl (f39 t0) fun t9 =>
  nei .i64 t9 (.int .i64 0) fun t11 =>
  cnd t11 (
    rt t9
    ) (
    lt .i64 t1 (.int .i64 0) fun t14 =>
    gd t14 false (idv t1) fun t16 =>
    gd t14 false (idv t0) fun t17 =>
    gd t14 false (nc t17) fun t18 =>
    gd t14 false (fa 0 t18) fun t19 =>
    gd t14 false (ld t19) fun t20 =>
    gd t14 false (lnl t20) fun t21 =>
    gd t14 false (ge .i64 t16 t21) fun t22 =>
    pk t14 (.bool true) t22 fun t23 =>
    cnd t23 (
      rt (.int .i64 7)
      ) (
      lns t2 fun t25 =>
      gt .i64 t25 (.int .i64 64) fun t26 =>
      cnd t26 (
        rt (.int .i64 3)
        ) (
        dr <|
        idv t0 fun t27 =>
        nc t27 fun t28 =>
        fa 0 t28 fun t29 =>
        ld t29 fun t30 =>
        idv t1 fun t31 =>
        idv t2 fun t32 =>
        cl (f12 t32) fun t33 =>
        kp (Kld t29 t30) <|
        ia 3 t30 t31 fun t34 =>
        fa 1 t34 fun t35 =>
        st t35 t33 <|
        nc t0 fun t37 =>
        fa 0 t37 fun t38 =>
        ld t38 fun t39 =>
        ia 3 t39 t1 fun t41 =>
        fa 2 t41 fun t42 =>
        st t42 (.bool true) <|
        rt (.int .i64 0)
        )
      )
    )
theorem s31 (t0 t1 t2 : Value) (w : World) (Q : Value → World → Prop) (h : f31 t0 t1 t2 w Q) : Calls Try.prog 31 #[t0, t1, t2] w (Rt Q) := by
  refine calls_of (l := [t0, t1, t2]) Try.func31 rfl Try.ntmps31 (Nat.le_of_ble_eq_true rfl) ?_
  unfold f31 at h
  refine wp_seq ?_
  refine L_region ?_
  refine L_as ?_
  refine L_nil ?_
  refine E_n ?_
  refine wp_seq ?_
  refine L_region ?_
  refine L_mv ?_
  refine L_u (N_cl Try.func39 rfl nn39 (fun w Q h => s39 _ w Q h) h) ?_
  intro v w h
  refine L_as ?_
  refine L_nil ?_
  refine E_n ?_
  refine wp_seq ?_
  refine wp_seq ?_
  refine L_region ?_
  refine L_mv ?_
  refine L_u (P_nei h) ?_
  intro v w h
  refine L_nil ?_
  refine E_n ?_
  refine C_cnd h (fun h => ?_) (fun h => ?_)
  · refine wp_seq ?_
    refine L_region ?_
    refine L_mv ?_
    refine L_as ?_
    refine L_nil ?_
    refine E_n ?_
    refine C_ret ?_
    show bodyPost Try.prog Try.f31 (Rt Q) .ret _ _
    exact post_tmps (ts := [6]) (.inr rfl) rfl h
  · refine C_skip ?_
    refine E_n ?_
    refine wp_seq ?_
    refine wp_seq ?_
    refine L_region ?_
    refine L_mv ?_
    refine L_u (P_lt h) ?_
    intro v w h
    refine L_mv ?_
    refine L_g (t := 15) h rfl rfl (fun c h => P_mv h c) ?_
    intro v w h
    refine L_g (t := 15) h rfl rfl (fun c h => P_mv h c) ?_
    intro v w h
    refine L_g (t := 15) h rfl rfl (fun c h => P_nc h c) ?_
    intro v w h
    refine L_g (t := 15) h rfl rfl (fun c h => P_fa fo44_0 h c) ?_
    intro v w h
    refine L_g (t := 15) h rfl rfl (fun c h => P_ld sc42 h c) ?_
    intro v w h
    refine L_g (t := 15) h rfl rfl (fun c h => P_lnl is42 h c) ?_
    intro v w h
    refine L_g (t := 15) h rfl rfl (fun c h => P_ge h c) ?_
    intro v w h
    refine L_u (P_pk h) ?_
    intro v w h
    refine L_nil ?_
    refine E_n ?_
    refine C_cnd h (fun h => ?_) (fun h => ?_)
    · refine wp_seq ?_
      refine L_region ?_
      refine L_as ?_
      refine L_nil ?_
      refine E_n ?_
      refine C_ret ?_
      show bodyPost Try.prog Try.f31 (Rt Q) .ret _ _
      exact post_tmps (ts := [6]) (.inr rfl) rfl h
    · refine C_skip ?_
      refine E_n ?_
      refine wp_seq ?_
      refine wp_seq ?_
      refine L_region ?_
      refine L_mv ?_
      refine L_u (P_lns st9 h) ?_
      intro v w h
      refine L_u (P_gt h) ?_
      intro v w h
      refine L_nil ?_
      refine E_n ?_
      refine C_cnd h (fun h => ?_) (fun h => ?_)
      · refine wp_seq ?_
        refine L_region ?_
        refine L_as ?_
        refine L_nil ?_
        refine E_n ?_
        refine C_ret ?_
        show bodyPost Try.prog Try.f31 (Rt Q) .ret _ _
        exact post_tmps (ts := [6]) (.inr rfl) rfl h
      · refine C_skip ?_
        refine E_n ?_
        refine wp_seq ?_
        refine D_region (by decide +kernel) 10 rfl ?_
        replace h := dr_e h
        refine G_p 0 rfl (by decide +kernel) (Y_mv h) ?_
        intro v h
        refine G_p 1 rfl (by decide +kernel) (Y_nc h) ?_
        intro v h
        refine G_p 2 rfl (by decide +kernel) (Y_fa fo44_0 h) ?_
        intro v h
        refine G_r _ 3 rfl (by decide +kernel) (R_ld sc42 h) ?_
        intro v h
        refine G_p 4 rfl (by decide +kernel) (Y_mv h) ?_
        intro v h
        refine G_p 5 rfl (by decide +kernel) (Y_mv h) ?_
        intro v h
        refine G_e 6 rfl (by decide +kernel) (N_cl Try.func12 rfl nn12 (fun w Q h => s12 _ w Q h) h ?_)
        intro v w h
        refine ⟨keepF_cons (kp_1 h) keepF_nil, ?_⟩
        replace h := (kp_2 h)
        refine G_p 7 rfl (by decide +kernel) (Y_ia se42 h) ?_
        intro v h
        refine G_p 8 rfl (by decide +kernel) (Y_fa fo70_1 h) ?_
        intro v h
        refine G_e 9 rfl (by decide +kernel) (P_st on9 h ?_)
        intro w h
        refine ⟨keepF_dep [3] (by decide +kernel) rfl keepF_nil, ?_⟩
        refine G_done (by decide +kernel) ?_
        refine E_n ?_
        refine wp_seq ?_
        refine L_region ?_
        refine L_mv ?_
        refine L_u (P_nc h) ?_
        intro v w h
        refine L_u (P_fa fo44_0 h) ?_
        intro v w h
        refine L_u (P_ld sc42 h) ?_
        intro v w h
        refine L_mv ?_
        refine L_u (P_ia se42 h) ?_
        intro v w h
        refine L_u (P_fa fo70_2 h) ?_
        intro v w h
        refine L_u (P_st on4 h) ?_
        intro w h
        refine L_nil ?_
        refine E_n ?_
        refine wp_seq ?_
        refine L_region ?_
        refine L_as ?_
        refine L_nil ?_
        refine E_n ?_
        refine C_ret ?_
        show bodyPost Try.prog Try.f31 (Rt Q) .ret _ _
        exact post_tmps (ts := [6]) (.inr rfl) rfl h

/- (*factotum/factotumref04.Device).Sync -/
def f32_b2 (j1 : M) (self2 : Value → Value → M) (t0_1 t4 : Value) : M :=
  nc t0_1 fun t12 =>
  fa 0 t12 fun t13 =>
  ld t13 fun t14 =>
  lnl t14 fun t15 =>
  lt .i64 t4 t15 fun t16 =>
  cnd t16 (
    dr <|
    idv t0_1 fun t19 =>
    nc t19 fun t20 =>
    fa 0 t20 fun t21 =>
    ld t21 fun t22 =>
    idv t4 fun t23 =>
    idv t0_1 fun t24 =>
    nc t24 fun t25 =>
    fa 0 t25 fun t26 =>
    ld t26 fun t27 =>
    idv t4 fun t28 =>
    ia 3 t27 t28 fun t29 =>
    fa 1 t29 fun t30 =>
    ld t30 fun t31 =>
    ia 3 t22 t23 fun t32 =>
    fa 0 t32 fun t33 =>
    st t33 t31 <|
    nc t0_1 fun t35 =>
    fa 0 t35 fun t36 =>
    ld t36 fun t37 =>
    ia 3 t37 t4 fun t39 =>
    fa 2 t39 fun t40 =>
    st t40 (.bool false) <|
    ad .i64 t4 (.int .i64 1) fun t18 =>
    self2 t0_1 t18
    ) (
    j1
    )
def f32_j1 : M :=
  rt (.int .i64 0)
def f32 (t0 : Value) : M :=
  cl (f39 t0) fun t6 =>
  nei .i64 t6 (.int .i64 0) fun t8 =>
  cnd t8 (
    rt t6
    ) (
    jn (fun (j1 : M) =>
      lo (fun _ _ => bot) (f32_b2 j1) (fun l => l t0 (.int .i64 0))
      ) (f32_j1)
    )
theorem s32 (t0 : Value) (w : World) (Q : Value → World → Prop) (h : f32 t0 w Q) : Calls Try.prog 32 #[t0] w (Rt Q) := by
  refine calls_of (l := [t0]) Try.func32 rfl Try.ntmps32 (Nat.le_of_ble_eq_true rfl) ?_
  unfold f32 at h
  refine wp_seq ?_
  refine L_region ?_
  refine L_as ?_
  refine L_nil ?_
  refine E_n ?_
  refine wp_seq ?_
  refine L_region ?_
  refine L_mv ?_
  refine L_u (N_cl Try.func39 rfl nn39 (fun w Q h => s39 _ w Q h) h) ?_
  intro v w h
  refine L_as ?_
  refine L_nil ?_
  refine E_n ?_
  refine wp_seq ?_
  refine wp_seq ?_
  refine L_region ?_
  refine L_mv ?_
  refine L_u (P_nei h) ?_
  intro v w h
  refine L_nil ?_
  refine E_n ?_
  refine C_cnd h (fun h => ?_) (fun h => ?_)
  · refine wp_seq ?_
    refine L_region ?_
    refine L_mv ?_
    refine L_as ?_
    refine L_nil ?_
    refine E_n ?_
    refine C_ret ?_
    show bodyPost Try.prog Try.f32 (Rt Q) .ret _ _
    exact post_tmps (ts := [2]) (.inr rfl) rfl h
  · refine C_skip ?_
    refine E_n ?_
    refine wp_seq ?_
    refine wp_seq ?_
    refine L_region ?_
    refine L_as ?_
    refine L_nil ?_
    refine E_n ?_
    refine C_join (fun (k : M) (ρ : Nat → Value) => k) h (fun j1 J1 h => ?_) (fun ρ w h => ?_)
    · refine C_blk ?_
      refine C_lo (fun (l : Value → Value → M) (ρ : Nat → Value) => l (ρ 0) (ρ 4)) h (fun ρ w h => h) (fun nx self2 L2 ρ w h => ?_)
      unfold f32_b2 at h
      refine wp_seq ?_
      refine wp_seq ?_
      refine L_region ?_
      refine L_mv ?_
      refine L_mv ?_
      refine L_u (P_nc h) ?_
      intro v w h
      refine L_u (P_fa fo44_0 h) ?_
      intro v w h
      refine L_u (P_ld sc42 h) ?_
      intro v w h
      refine L_u (P_lnl is42 h) ?_
      intro v w h
      refine L_u (P_lt h) ?_
      intro v w h
      refine L_nil ?_
      refine E_n ?_
      refine C_cnd h (fun h => ?_) (fun h => ?_)
      · refine C_skip ?_
        refine E_n ?_
        refine wp_seq ?_
        refine C_blk ?_
        refine wp_seq ?_
        refine D_region (by decide +kernel) 16 rfl ?_
        replace h := dr_e h
        refine G_p 0 rfl (by decide +kernel) (Y_mv h) ?_
        intro v h
        refine G_p 1 rfl (by decide +kernel) (Y_nc h) ?_
        intro v h
        refine G_p 2 rfl (by decide +kernel) (Y_fa fo44_0 h) ?_
        intro v h
        refine G_r _ 3 rfl (by decide +kernel) (R_ld sc42 h) ?_
        intro v h
        refine G_p 4 rfl (by decide +kernel) (Y_mv h) ?_
        intro v h
        refine G_p 5 rfl (by decide +kernel) (Y_mv h) ?_
        intro v h
        refine G_p 6 rfl (by decide +kernel) (Y_nc h) ?_
        intro v h
        refine G_p 7 rfl (by decide +kernel) (Y_fa fo44_0 h) ?_
        intro v h
        refine G_r _ 8 rfl (by decide +kernel) (R_ld sc42 h) ?_
        intro v h
        refine G_p 9 rfl (by decide +kernel) (Y_mv h) ?_
        intro v h
        refine G_p 10 rfl (by decide +kernel) (Y_ia se42 h) ?_
        intro v h
        refine G_p 11 rfl (by decide +kernel) (Y_fa fo70_1 h) ?_
        intro v h
        refine G_r _ 12 rfl (by decide +kernel) (R_ld sc9 h) ?_
        intro v h
        refine G_p 13 rfl (by decide +kernel) (Y_ia se42 h) ?_
        intro v h
        refine G_p 14 rfl (by decide +kernel) (Y_fa fo70_0 h) ?_
        intro v h
        refine G_e 15 rfl (by decide +kernel) (P_st on9 h ?_)
        intro w h
        refine ⟨keepF_dep [12] (by decide +kernel) rfl (keepF_dep [8] (by decide +kernel) rfl (keepF_dep [3] (by decide +kernel) rfl keepF_nil)), ?_⟩
        refine G_done (by decide +kernel) ?_
        refine E_n ?_
        refine L_region ?_
        refine L_mv ?_
        refine L_u (P_nc h) ?_
        intro v w h
        refine L_u (P_fa fo44_0 h) ?_
        intro v w h
        refine L_u (P_ld sc42 h) ?_
        intro v w h
        refine L_mv ?_
        refine L_u (P_ia se42 h) ?_
        intro v w h
        refine L_u (P_fa fo70_2 h) ?_
        intro v w h
        refine L_u (P_st on4 h) ?_
        intro w h
        refine L_nil ?_
        refine B_n ?_
        refine E_n ?_
        refine L_region ?_
        refine L_mv ?_
        refine L_u (P_ad h) ?_
        intro v w h
        refine L_as ?_
        refine L_nil ?_
        refine E_n ?_
        exact L2 _ _ h
      · refine C_exit ?_
        refine E_x ?_
        refine E_x ?_
        refine B_x ?_
        exact J1 _ _ h
    · unfold f32_j1 at h
      refine E_n ?_
      refine wp_seq ?_
      refine L_region ?_
      refine L_as ?_
      refine L_nil ?_
      refine E_n ?_
      refine C_ret ?_
      show bodyPost Try.prog Try.f32 (Rt Q) .ret _ _
      exact post_tmps (ts := [2]) (.inr rfl) rfl h

/- (*factotum/factotumref04.Device).Stop -/
def f33 (t0 t1 : Value) : M :=
  nc t0 fun t5 =>
  fa 2 t5 fun t6 =>
  st t6 (.int .i64 (-1)) <|
  ge .i64 t1 (.int .i64 0) fun t8 =>
  gd t8 true (idv t1) fun t10 =>
  gd t8 true (le .i64 t10 (.int .i64 1099511627776)) fun t11 =>
  pk t8 t11 (.bool false) fun t12 =>
  cnd t12 (
    nc t0 fun t15 =>
    fa 1 t15 fun t16 =>
    ld t16 fun t17 =>
    ad .i64 t17 t1 fun t19 =>
    nc t0 fun t20 =>
    fa 2 t20 fun t21 =>
    st t21 t19 <|
    rt (.tuple #[])
    ) (
    rt (.tuple #[])
    )
theorem s33 (t0 t1 : Value) (w : World) (Q : Value → World → Prop) (h : f33 t0 t1 w Q) : Calls Try.prog 33 #[t0, t1] w (Rt Q) := by
  refine calls_of (l := [t0, t1]) Try.func33 rfl Try.ntmps33 (Nat.le_of_ble_eq_true rfl) ?_
  unfold f33 at h
  refine wp_seq ?_
  refine L_region ?_
  refine L_mv ?_
  refine L_u (P_nc h) ?_
  intro v w h
  refine L_u (P_fa fo44_2 h) ?_
  intro v w h
  refine L_u (P_st on3 h) ?_
  intro w h
  refine L_nil ?_
  refine E_n ?_
  refine wp_seq ?_
  refine L_region ?_
  refine L_mv ?_
  refine L_u (P_ge h) ?_
  intro v w h
  refine L_mv ?_
  refine L_g (t := 9) h rfl rfl (fun c h => P_mv h c) ?_
  intro v w h
  refine L_g (t := 9) h rfl rfl (fun c h => P_le h c) ?_
  intro v w h
  refine L_u (P_pk h) ?_
  intro v w h
  refine L_nil ?_
  refine E_n ?_
  refine C_cnd h (fun h => ?_) (fun h => ?_)
  · refine L_region ?_
    refine L_mv ?_
    refine L_mv ?_
    refine L_u (P_nc h) ?_
    intro v w h
    refine L_u (P_fa fo44_1 h) ?_
    intro v w h
    refine L_u (P_ld sc3 h) ?_
    intro v w h
    refine L_mv ?_
    refine L_u (P_ad h) ?_
    intro v w h
    refine L_u (P_nc h) ?_
    intro v w h
    refine L_u (P_fa fo44_2 h) ?_
    intro v w h
    refine L_u (P_st on3 h) ?_
    intro w h
    refine L_nil ?_
    show bodyPost Try.prog Try.f33 (Rt Q) .normal _ _
    exact post_tmps (ts := []) (.inl rfl) rfl h
  · refine C_skip ?_
    show bodyPost Try.prog Try.f33 (Rt Q) .normal _ _
    exact post_tmps (ts := []) (.inl rfl) rfl h

/- (*factotum/factotumref04.Device).Unsure -/
def f21_j3 (self2 : Value → Value → Value → M) (t0_2 t3_1 t4_1 : Value) : M :=
  ad .i64 t4_1 (.int .i64 1) fun t13 =>
  self2 t0_2 t3_1 t13
def f21_b2 (j1 : Value → M) (self2 : Value → Value → Value → M) (t0_1 t3 t4 : Value) : M :=
  nc t0_1 fun t7 =>
  fa 0 t7 fun t8 =>
  ld t8 fun t9 =>
  lnl t9 fun t10 =>
  lt .i64 t4 t10 fun t11 =>
  cnd t11 (
    nc t0_1 fun t15 =>
    fa 0 t15 fun t16 =>
    ld t16 fun t17 =>
    ia 3 t17 t4 fun t19 =>
    fa 2 t19 fun t20 =>
    ld t20 fun t21 =>
    jn (fun (j3 : Value → Value → Value → M) =>
      cnd t21 (
        sm Try.prog (Instr.buildSlice 29 1 #[(0, t4)]) fun t24 =>
        sm Try.prog (Builtin.append_ #[29, 29] 29 #[t3, t24]) fun t25 =>
        j3 t0_1 t25 t4
        ) (
        j3 t0_1 t3 t4
        )
      ) (f21_j3 self2)
    ) (
    j1 t3
    )
def f21_j1 (t3_2 : Value) : M :=
  rt t3_2
def f21 (t0 : Value) : M :=
  jn (fun (j1 : Value → M) =>
    lo (fun _ _ _ => bot) (f21_b2 j1) (fun l => l t0 (.slice none 0 0) (.int .i64 0))
    ) (f21_j1)
theorem s21 (t0 : Value) (w : World) (Q : Value → World → Prop) (h : f21 t0 w Q) : Calls Try.prog 21 #[t0] w (Rt Q) := by
  refine calls_of (l := [t0]) Try.func21 rfl Try.ntmps21 (Nat.le_of_ble_eq_true rfl) ?_
  unfold f21 at h
  refine wp_seq ?_
  refine L_region ?_
  refine L_as ?_
  refine L_nil ?_
  refine E_n ?_
  refine wp_seq ?_
  refine L_region ?_
  refine L_as ?_
  refine L_nil ?_
  refine E_n ?_
  refine wp_seq ?_
  refine wp_seq ?_
  refine L_region ?_
  refine L_as ?_
  refine L_nil ?_
  refine E_n ?_
  refine C_join (fun (k : Value → M) (ρ : Nat → Value) => k (ρ 3)) h (fun j1 J1 h => ?_) (fun ρ w h => ?_)
  · refine C_blk ?_
    refine C_lo (fun (l : Value → Value → Value → M) (ρ : Nat → Value) => l (ρ 0) (ρ 3) (ρ 4)) h (fun ρ w h => h) (fun nx self2 L2 ρ w h => ?_)
    unfold f21_b2 at h
    refine wp_seq ?_
    refine wp_seq ?_
    refine L_region ?_
    refine L_mv ?_
    refine L_mv ?_
    refine L_u (P_nc h) ?_
    intro v w h
    refine L_u (P_fa fo44_0 h) ?_
    intro v w h
    refine L_u (P_ld sc42 h) ?_
    intro v w h
    refine L_u (P_lnl is42 h) ?_
    intro v w h
    refine L_u (P_lt h) ?_
    intro v w h
    refine L_nil ?_
    refine E_n ?_
    refine C_cnd h (fun h => ?_) (fun h => ?_)
    · refine C_skip ?_
      refine E_n ?_
      refine wp_seq ?_
      refine C_blk ?_
      refine wp_seq ?_
      refine L_region ?_
      refine L_mv ?_
      refine L_u (P_nc h) ?_
      intro v w h
      refine L_u (P_fa fo44_0 h) ?_
      intro v w h
      refine L_u (P_ld sc42 h) ?_
      intro v w h
      refine L_mv ?_
      refine L_u (P_ia se42 h) ?_
      intro v w h
      refine L_u (P_fa fo70_2 h) ?_
      intro v w h
      refine L_u (P_ld sc4 h) ?_
      intro v w h
      refine L_nil ?_
      refine E_n ?_
      refine C_join (fun (k : Value → Value → Value → M) (ρ : Nat → Value) => k (ρ 0) (ρ 3) (ρ 4)) h (fun j3 J3 h => ?_) (fun ρ w h => ?_)
      · refine C_cnd h (fun h => ?_) (fun h => ?_)
        · refine L_region ?_
          refine L_mv ?_
          refine L_mv ?_
          refine L_u (N_bsl h) ?_
          intro v w h
          refine L_u (N_bi rfl h) ?_
          intro v w h
          refine L_as ?_
          refine L_nil ?_
          exact J3 _ _ h
        · refine C_skip ?_
          exact J3 _ _ h
      · unfold f21_j3 at h
        refine B_n ?_
        refine E_n ?_
        refine L_region ?_
        refine L_mv ?_
        refine L_u (P_ad h) ?_
        intro v w h
        refine L_as ?_
        refine L_nil ?_
        refine E_n ?_
        exact L2 _ _ h
    · refine C_exit ?_
      refine E_x ?_
      refine E_x ?_
      refine B_x ?_
      exact J1 _ _ h
  · unfold f21_j1 at h
    refine E_n ?_
    refine wp_seq ?_
    refine L_region ?_
    refine L_mv ?_
    refine L_as ?_
    refine L_nil ?_
    refine E_n ?_
    refine C_ret ?_
    show bodyPost Try.prog Try.f21 (Rt Q) .ret _ _
    exact post_tmps (ts := [2]) (.inr rfl) rfl h

/- (*factotum/factotumref04.Device).Crash -/
def f34_j3 (self2 : Value → Value → Value → Value → Value → Value → M) (t0_2 t1_2 t2_2 t3_2 t8_1 t9_1 t11_1 : Value) : M :=
  dr <|
  idv t0_2 fun t62 =>
  nc t62 fun t63 =>
  fa 0 t63 fun t64 =>
  ld t64 fun t65 =>
  idv t8_1 fun t66 =>
  idv t9_1 fun t67 =>
  ia 1 t66 t67 fun t68 =>
  ld t68 fun t69 =>
  idv t11_1 fun t70 =>
  idv t11_1 fun t71 =>
  smr Try.prog (Instr.build 70 #[(0, t70), (1, t71)]) fun t72 =>
  ia 3 t65 t69 fun t73 =>
  stn 3 t73 t72 <|
  ad .i64 t9_1 (.int .i64 1) fun t20 =>
  self2 t0_2 t1_2 t2_2 t3_2 t8_1 t20
def f34_b2 (j1 : Value → M) (self2 : Value → Value → Value → Value → Value → Value → M) (t0_1 t1_1 t2_1 t3_1 t8 t9 : Value) : M :=
  lnl t8 fun t17 =>
  lt .i64 t9 t17 fun t18 =>
  cnd t18 (
    dr <|
    idv t0_1 fun t21 =>
    nc t21 fun t22 =>
    fa 0 t22 fun t23 =>
    ld t23 fun t24 =>
    idv t8 fun t25 =>
    idv t9 fun t26 =>
    ia 1 t25 t26 fun t27 =>
    ld t27 fun t28 =>
    ia 3 t24 t28 fun t29 =>
    ldn 3 t29 fun t30 =>
    al 70 #[(.string ⟨#[]⟩), (.string ⟨#[]⟩), (.bool false)] fun t10 =>
    kp (Kldn 3 t29 t30) <|
    kp (Kld t27 t28) <|
    kp (Kld t23 t24) <|
    stn 3 t10 t30 <|
    fa 0 t10 fun t31 =>
    ld t31 fun t32 =>
    eqi .i64 t9 t2_1 fun t35 =>
    jn (fun (j3 : Value → Value → Value → Value → Value → Value → Value → M) =>
      cnd t35 (
        mxm t3_1 (.int .i64 0) fun t37 =>
        mnm t37 (.int .i64 64) fun t38 =>
        dr <|
        fa 1 t10 fun t39 =>
        ld t39 fun t40 =>
        idv t38 fun t41 =>
        sls t40 none (some t41) fun t42 =>
        fa 0 t10 fun t43 =>
        ld t43 fun t44 =>
        idv t38 fun t45 =>
        sls t44 (some t45) none fun t46 =>
        cat t42 t46 fun t47 =>
        idv t47 fun t11 =>
        j3 t0_1 t1_1 t2_1 t3_1 t8 t9 t11
        ) (
        lnl t1_1 fun t49 =>
        gt .i64 t49 (.int .i64 0) fun t50 =>
        gd t50 true (idv t1_1) fun t52 =>
        gd t50 true (idv t9) fun t53 =>
        gd t50 true (idv t1_1) fun t54 =>
        gd t50 true (lnl t54) fun t55 =>
        gd t50 true (re .i64 t53 t55) fun t56 =>
        gd t50 true (ia 1 t52 t56) fun t57 =>
        gd t50 true (ld t57) fun t58 =>
        pk t50 t58 (.bool false) fun t59 =>
        cnd t59 (
          fa 1 t10 fun t60 =>
          ld t60 fun t61 =>
          j3 t0_1 t1_1 t2_1 t3_1 t8 t9 t61
          ) (
          j3 t0_1 t1_1 t2_1 t3_1 t8 t9 t32
          )
        )
      ) (f34_j3 self2)
    ) (
    j1 t0_1
    )
def f34_j1 (t0_3 : Value) : M :=
  nc t0_3 fun t75 =>
  fa 2 t75 fun t76 =>
  st t76 (.int .i64 (-1)) <|
  rt (.tuple #[])
def f34 (t0 t1 t2 t3 : Value) : M :=
  cl (f21 t0) fun t14 =>
  jn (fun (j1 : Value → M) =>
    lo (fun _ _ _ _ _ _ => bot) (f34_b2 j1) (fun l => l t0 t1 t2 t3 t14 (.int .i64 0))
    ) (f34_j1)
theorem s34 (t0 t1 t2 t3 : Value) (w : World) (Q : Value → World → Prop) (h : f34 t0 t1 t2 t3 w Q) : Calls Try.prog 34 #[t0, t1, t2, t3] w (Rt Q) := by
  refine calls_of (l := [t0, t1, t2, t3]) Try.func34 rfl Try.ntmps34 (Nat.le_of_ble_eq_true rfl) ?_
  unfold f34 at h
  refine wp_seq ?_
  refine L_region ?_
  refine L_mv ?_
  refine L_u (N_cl Try.func21 rfl nn21 (fun w Q h => s21 _ w Q h) h) ?_
  intro v w h
  refine L_as ?_
  refine L_nil ?_
  refine E_n ?_
  refine wp_seq ?_
  refine wp_seq ?_
  refine L_region ?_
  refine L_as ?_
  refine L_nil ?_
  refine E_n ?_
  refine C_join (fun (k : Value → M) (ρ : Nat → Value) => k (ρ 0)) h (fun j1 J1 h => ?_) (fun ρ w h => ?_)
  · refine C_blk ?_
    refine C_lo (fun (l : Value → Value → Value → Value → Value → Value → M) (ρ : Nat → Value) => l (ρ 0) (ρ 1) (ρ 2) (ρ 3) (ρ 8) (ρ 9)) h (fun ρ w h => h) (fun nx self2 L2 ρ w h => ?_)
    unfold f34_b2 at h
    refine wp_seq ?_
    refine wp_seq ?_
    refine L_region ?_
    refine L_mv ?_
    refine L_mv ?_
    refine L_u (P_lnl is29 h) ?_
    intro v w h
    refine L_u (P_lt h) ?_
    intro v w h
    refine L_nil ?_
    refine E_n ?_
    refine C_cnd h (fun h => ?_) (fun h => ?_)
    · refine C_skip ?_
      refine E_n ?_
      refine wp_seq ?_
      refine C_blk ?_
      refine wp_seq ?_
      refine D_region (by decide +kernel) 12 rfl ?_
      replace h := dr_e h
      refine G_p 0 rfl (by decide +kernel) (Y_mv h) ?_
      intro v h
      refine G_p 1 rfl (by decide +kernel) (Y_nc h) ?_
      intro v h
      refine G_p 2 rfl (by decide +kernel) (Y_fa fo44_0 h) ?_
      intro v h
      refine G_r _ 3 rfl (by decide +kernel) (R_ld sc42 h) ?_
      intro v h
      refine G_p 4 rfl (by decide +kernel) (Y_mv h) ?_
      intro v h
      refine G_p 5 rfl (by decide +kernel) (Y_mv h) ?_
      intro v h
      refine G_p 6 rfl (by decide +kernel) (Y_ia se29 h) ?_
      intro v h
      refine G_r _ 7 rfl (by decide +kernel) (R_ld sc3 h) ?_
      intro v h
      refine G_p 8 rfl (by decide +kernel) (Y_ia se42 h) ?_
      intro v h
      refine G_r _ 9 rfl (by decide +kernel) (R_ldn ag70 h) ?_
      intro v h
      refine G_e 10 rfl (by decide +kernel) (P_al ze70 rfl h ?_)
      intro v w h
      refine ⟨keepF_cons (kp_1 h) (keepF_cons (kp_1 (kp_2 h)) (keepF_cons (kp_1 (kp_2 (kp_2 h))) keepF_nil)), ?_⟩
      replace h := (kp_2 (kp_2 (kp_2 h)))
      refine G_e 11 rfl (by decide +kernel) (P_stn ag70 h ?_)
      intro w h
      refine ⟨keepF_dep [9] (by decide +kernel) rfl (keepF_dep [7] (by decide +kernel) rfl (keepF_dep [3] (by decide +kernel) rfl keepF_nil)), ?_⟩
      refine G_done (by decide +kernel) ?_
      refine E_n ?_
      refine wp_seq ?_
      refine L_region ?_
      refine L_u (P_fa fo70_0 h) ?_
      intro v w h
      refine L_u (P_ld sc9 h) ?_
      intro v w h
      refine L_as ?_
      refine L_nil ?_
      refine E_n ?_
      refine wp_seq ?_
      refine wp_seq ?_
      refine L_region ?_
      refine L_mv ?_
      refine L_mv ?_
      refine L_u (P_eqi h) ?_
      intro v w h
      refine L_nil ?_
      refine E_n ?_
      refine C_join (fun (k : Value → Value → Value → Value → Value → Value → Value → M) (ρ : Nat → Value) => k (ρ 0) (ρ 1) (ρ 2) (ρ 3) (ρ 8) (ρ 9) (ρ 11)) h (fun j3 J3 h => ?_) (fun ρ w h => ?_)
      · refine C_cnd h (fun h => ?_) (fun h => ?_)
        · refine wp_seq ?_
          refine L_region ?_
          refine L_mv ?_
          refine L_u (P_mxm (t := 0) h) ?_
          intro v w h
          refine L_u (P_mnm (t := 0) h) ?_
          intro v w h
          refine L_as ?_
          refine L_nil ?_
          refine E_n ?_
          refine D_region (by decide +kernel) 10 rfl ?_
          replace h := dr_e h
          refine G_p 0 rfl (by decide +kernel) (Y_fa fo70_1 h) ?_
          intro v h
          refine G_r _ 1 rfl (by decide +kernel) (R_ld sc9 h) ?_
          intro v h
          refine G_p 2 rfl (by decide +kernel) (Y_mv h) ?_
          intro v h
          refine G_p 3 rfl (by decide +kernel) (Y_sls st9 h) ?_
          intro v h
          refine G_p 4 rfl (by decide +kernel) (Y_fa fo70_0 h) ?_
          intro v h
          refine G_r _ 5 rfl (by decide +kernel) (R_ld sc9 h) ?_
          intro v h
          refine G_p 6 rfl (by decide +kernel) (Y_mv h) ?_
          intro v h
          refine G_p 7 rfl (by decide +kernel) (Y_sls st9 h) ?_
          intro v h
          refine G_p 8 rfl (by decide +kernel) (Y_cat h) ?_
          intro v h
          refine G_p 9 rfl (by decide +kernel) (Y_as h) ?_
          intro v h
          refine G_done (by decide +kernel) ?_
          exact J3 _ _ h
        · refine wp_seq ?_
          refine L_region ?_
          refine L_mv ?_
          refine L_u (P_lnl is38 h) ?_
          intro v w h
          refine L_u (P_gt h) ?_
          intro v w h
          refine L_mv ?_
          refine L_g (t := 51) h rfl rfl (fun c h => P_mv h c) ?_
          intro v w h
          refine L_g (t := 51) h rfl rfl (fun c h => P_mv h c) ?_
          intro v w h
          refine L_g (t := 51) h rfl rfl (fun c h => P_mv h c) ?_
          intro v w h
          refine L_g (t := 51) h rfl rfl (fun c h => P_lnl is38 h c) ?_
          intro v w h
          refine L_g (t := 51) h rfl rfl (fun c h => P_re h c) ?_
          intro v w h
          refine L_g (t := 51) h rfl rfl (fun c h => P_ia se38 h c) ?_
          intro v w h
          refine L_g (t := 51) h rfl rfl (fun c h => P_ld sc4 h c) ?_
          intro v w h
          refine L_u (P_pk h) ?_
          intro v w h
          refine L_nil ?_
          refine E_n ?_
          refine C_cnd h (fun h => ?_) (fun h => ?_)
          · refine L_region ?_
            refine L_u (P_fa fo70_1 h) ?_
            intro v w h
            refine L_u (P_ld sc9 h) ?_
            intro v w h
            refine L_as ?_
            refine L_nil ?_
            exact J3 _ _ h
          · refine C_skip ?_
            exact J3 _ _ h
      · unfold f34_j3 at h
        refine E_n ?_
        refine D_region (by decide +kernel) 13 rfl ?_
        replace h := dr_e h
        refine G_p 0 rfl (by decide +kernel) (Y_mv h) ?_
        intro v h
        refine G_p 1 rfl (by decide +kernel) (Y_nc h) ?_
        intro v h
        refine G_p 2 rfl (by decide +kernel) (Y_fa fo44_0 h) ?_
        intro v h
        refine G_r _ 3 rfl (by decide +kernel) (R_ld sc42 h) ?_
        intro v h
        refine G_p 4 rfl (by decide +kernel) (Y_mv h) ?_
        intro v h
        refine G_p 5 rfl (by decide +kernel) (Y_mv h) ?_
        intro v h
        refine G_p 6 rfl (by decide +kernel) (Y_ia se29 h) ?_
        intro v h
        refine G_r _ 7 rfl (by decide +kernel) (R_ld sc3 h) ?_
        intro v h
        refine G_p 8 rfl (by decide +kernel) (Y_mv h) ?_
        intro v h
        refine G_p 9 rfl (by decide +kernel) (Y_mv h) ?_
        intro v h
        refine G_r _ 10 rfl (by decide +kernel) (R_bld h) ?_
        intro v h
        refine G_p 11 rfl (by decide +kernel) (Y_ia se42 h) ?_
        intro v h
        refine G_e 12 rfl (by decide +kernel) (P_stn ag70 h ?_)
        intro w h
        refine ⟨keepF_dep [10] (by decide +kernel) rfl (keepF_dep [7] (by decide +kernel) rfl (keepF_dep [3] (by decide +kernel) rfl keepF_nil)), ?_⟩
        refine G_done (by decide +kernel) ?_
        refine B_n ?_
        refine E_n ?_
        refine L_region ?_
        refine L_mv ?_
        refine L_u (P_ad h) ?_
        intro v w h
        refine L_as ?_
        refine L_nil ?_
        refine E_n ?_
        exact L2 _ _ h
    · refine C_exit ?_
      refine E_x ?_
      refine E_x ?_
      refine B_x ?_
      exact J1 _ _ h
  · unfold f34_j1 at h
    refine E_n ?_
    refine L_region ?_
    refine L_mv ?_
    refine L_u (P_nc h) ?_
    intro v w h
    refine L_u (P_fa fo44_2 h) ?_
    intro v w h
    refine L_u (P_st on3 h) ?_
    intro w h
    refine L_nil ?_
    show bodyPost Try.prog Try.f34 (Rt Q) .normal _ _
    exact post_tmps (ts := []) (.inl rfl) rfl h
end Go.Proofs.Ytjaiodbonffciaa
