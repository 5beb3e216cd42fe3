/- Functions as predicate transformers, and that the machine does what they say, by program. -/
import Derived.Test.YtongpnolikkknaaGreatDoorZ0
import Derived.Lib.ConvBytes
import Derived.Laws.StructEq
import Derived.ChangeKeysEq
import Derived.Lib.AppendStr
import Derived.Laws.BytesArg
import Derived.Laws.OwnMore
import Derived.ChangeShapes
import Derived.Test.YtongpnolikkknaaGreatDoorRows
import Derived.Laws.Pointers
import Derived.Laws.Bits64b
set_option linter.unusedVariables false
set_option linter.unusedSimpArgs false
set_option linter.unusedSectionVars false
set_option maxRecDepth 20000
set_option maxHeartbeats 4000000
namespace Go.Proofs.YtongpnolikkknaaGreatDoor
open Sh
attribute [local irreducible] wpL anyG act jn lo gdB amb kp smr nc fa ld ldn st stn ad su mu qu re lt le gt ge eqi nei bws shl shr cat eqs nes lts gts eqb neb nt pk cv al bx ex fld fldn lnl lns ia iaa ixs sls sll sla mif mnm mxm mm asrt sm smu cl cc cf ci cnd gd gdu
/- (*factotum/pager.Pager).page -/
def f112_b2 (j1 : Value → M) (self2 : Value → Value → Value → Value → Value → Value → M) (t0_1 t1_1 t9 t17 t18_1 t19 : Value) : M :=
  lt .i64 t19 t18_1 fun t20 =>
  cnd t20 (
    ia 1 t17 t19 fun t22 =>
    ld t22 fun t23 =>
    cf Tryz.prog t1_1 #[t19] fun t28 =>
    cl (f119 t0_1 t28 t23) fun t30 =>
    sm Tryz.prog (Instr.buildSlice 138 1 #[(0, t30)]) fun t31 =>
    sm Tryz.prog (Builtin.append_ #[138, 138] 138 #[t9, t31]) fun t32 =>
    ad .i64 t19 (.int .i64 1) fun t33 =>
    self2 t0_1 t1_1 t32 t17 t18_1 t33
    ) (
    j1 t9
    )
def f112_j1 (t9_1 : Value) : M :=
  rt t9_1
def f112 (t0 t1 t2 : Value) : M :=
  cl (f144 t2) fun t14 =>
  ex 0 t14 fun t15 =>
  ex 1 t14 fun t16 =>
  lnl t15 fun t18 =>
  jn (fun (j1 : Value → M) =>
    lo (fun _ _ _ _ _ _ => bot) (f112_b2 j1) (fun l => l t0 t1 (.slice none 0 0) t15 t18 (.int .i64 0))
    ) (f112_j1)
theorem s112 (t0 t1 t2 : Value) (w : World) (Q : Value → World → Prop) (h : f112 t0 t1 t2 w Q) : Calls Tryz.prog 112 #[t0, t1, t2] w (Rt Q) := by
  refine calls_of (l := [t0, t1, t2]) Tryz.func112 rfl Tryz.ntmps112 (Nat.le_of_ble_eq_true rfl) ?_
  unfold f112 at h
  refine wp_seq ?_
  refine L_region ?_
  refine L_as ?_
  refine L_nil ?_
  refine E_n ?_
  refine wp_seq ?_
  refine L_region ?_
  refine L_mv ?_
  refine L_u (N_cl Tryz.func144 rfl nn144 (fun w Q h => s144 _ w Q h) h) ?_
  intro v w h
  refine L_mv ?_
  refine L_u (P_ex h) ?_
  intro v w h
  refine L_u (P_ex h) ?_
  intro v w h
  refine L_as ?_
  refine L_as ?_
  refine L_nil ?_
  refine E_n ?_
  refine wp_seq ?_
  refine L_region ?_
  refine L_as ?_
  refine L_nil ?_
  refine E_n ?_
  refine wp_seq ?_
  refine wp_seq ?_
  refine L_region ?_
  refine L_mv ?_
  refine L_u (P_lnl is100 h) ?_
  intro v w h
  refine L_mv ?_
  refine L_nil ?_
  refine E_n ?_
  refine C_join (fun (k : Value → M) (ρ : Nat → Value) => k (ρ 9)) h (fun j1 J1 h => ?_) (fun ρ w h => ?_)
  · refine C_blk ?_
    refine C_lo (fun (l : Value → Value → Value → Value → Value → Value → M) (ρ : Nat → Value) => l (ρ 0) (ρ 1) (ρ 9) (ρ 17) (ρ 18) (ρ 19)) h (fun ρ w h => h) (fun nx self2 L2 ρ w h => ?_)
    unfold f112_b2 at h
    refine wp_seq ?_
    refine L_region ?_
    refine L_u (P_lt h) ?_
    intro v w h
    refine L_nil ?_
    refine E_n ?_
    refine wp_seq ?_
    refine C_cnd h (fun h => ?_) (fun h => ?_)
    · refine C_skip ?_
      refine E_n ?_
      refine wp_seq ?_
      refine C_blk ?_
      refine wp_seq ?_
      refine L_region ?_
      refine L_mv ?_
      refine L_u (P_ia se100 h) ?_
      intro v w h
      refine L_u (P_ld sc9 h) ?_
      intro v w h
      refine L_as ?_
      refine L_as ?_
      refine L_nil ?_
      refine E_n ?_
      refine L_region ?_
      refine L_mv ?_
      refine L_mv ?_
      refine L_mv ?_
      refine L_mv ?_
      refine L_u (N_cf h) ?_
      intro v w h
      refine L_mv ?_
      refine L_u (N_cl Tryz.func119 rfl nn119 (fun w Q h => s119 _ _ _ w Q h) h) ?_
      intro v w h
      refine L_u (N_bsl h) ?_
      intro v w h
      refine L_u (N_bi rfl h) ?_
      intro v w h
      refine L_as ?_
      refine L_nil ?_
      refine B_n ?_
      refine E_n ?_
      refine L_region ?_
      refine L_u (P_ad h) ?_
      intro v w h
      refine L_mv ?_
      refine L_nil ?_
      refine E_n ?_
      exact L2 _ _ h
    · refine C_exit ?_
      refine E_x ?_
      refine E_x ?_
      refine B_x ?_
      exact J1 _ _ h
  · unfold f112_j1 at h
    refine E_n ?_
    refine wp_seq ?_
    refine L_region ?_
    refine L_mv ?_
    refine L_as ?_
    refine L_nil ?_
    refine E_n ?_
    refine C_ret ?_
    show bodyPost Tryz.prog Tryz.f112 (Rt Q) .ret _ _
    exact post_tmps (ts := [6]) (.inr rfl) rfl h

/- (*factotum/pager.Pager).recover$2 -/
def f113 (t0 t1 : Value) : M :=
  ld t1 fun t4 =>
  cl (f81 t4 t0) fun t6 =>
  rt t6
theorem s113 (t0 t1 : Value) (w : World) (Q : Value → World → Prop) (h : f113 t0 t1 w Q) : Calls Tryz.prog 113 #[t0, t1] w (Rt Q) := by
  refine calls_of (l := [t0, t1]) Tryz.func113 rfl Tryz.ntmps113 (Nat.le_of_ble_eq_true rfl) ?_
  unfold f113 at h
  refine wp_seq ?_
  refine L_region ?_
  refine L_as ?_
  refine L_nil ?_
  refine E_n ?_
  refine wp_seq ?_
  refine L_region ?_
  refine L_u (P_ld sc3 h) ?_
  intro v w h
  refine L_mv ?_
  refine L_u (N_cl Tryz.func81 rfl nn81 (fun w Q h => s81 _ _ w Q h) h) ?_
  intro v w h
  refine L_as ?_
  refine L_nil ?_
  refine E_n ?_
  refine C_ret ?_
  show bodyPost Tryz.prog Tryz.f113 (Rt Q) .ret _ _
  exact post_tmps (ts := [3]) (.inr rfl) rfl h

/- (*factotum/device.Device).Sync -/
def f114_b2 (j1 : Value → M) (self2 : Value → Value → M) (t0_1 t15_1 : Value) : M :=
  sm Tryz.prog (Instr.next t15_1 false 0) fun t16 =>
  ex 0 t16 fun t17 =>
  cnd t17 (
    smr Tryz.prog (Instr.entry t15_1) fun t18 =>
    ex 0 t18 fun t19 =>
    ex 1 t18 fun t20 =>
    al 145 (Array.replicate 64 (.int .u8 0)) fun t5 =>
    stn 64 t5 t20 <|
    dr <|
    idv t0_1 fun t21 =>
    nc t21 fun t22 =>
    fa 0 t22 fun t23 =>
    ld t23 fun t24 =>
    idv t19 fun t25 =>
    ldn 64 t5 fun t26 =>
    ia 64 t24 t25 fun t27 =>
    stn 64 t27 t26 <|
    self2 t0_1 t15_1
    ) (
    j1 t0_1
    )
def f114_j1 (t0_2 : Value) : M :=
  nc t0_2 fun t29 =>
  fa 1 t29 fun t30 =>
  ld t30 fun t31 =>
  sm Tryz.prog (Builtin.clear_ #[128] 0 #[t31]) fun _ =>
  rt (.int .i64 0)
def f114 (t0 : Value) : M :=
  cl (f145 t0) fun t7 =>
  nei .i64 t7 (.int .i64 0) fun t9 =>
  cnd t9 (
    rt t7
    ) (
    nc t0 fun t12 =>
    fa 1 t12 fun t13 =>
    ld t13 fun t14 =>
    sm Tryz.prog (Instr.range 128 t14) fun t15 =>
    jn (fun (j1 : Value → M) =>
      lo (fun _ _ => bot) (f114_b2 j1) (fun l => l t0 t15)
      ) (f114_j1)
    )
theorem s114 (t0 : Value) (w : World) (Q : Value → World → Prop) (h : f114 t0 w Q) : Calls Tryz.prog 114 #[t0] w (Rt Q) := by
  refine calls_of (l := [t0]) Tryz.func114 rfl Tryz.ntmps114 (Nat.le_of_ble_eq_true rfl) ?_
  unfold f114 at h
  refine wp_seq ?_
  refine L_region ?_
  refine L_as ?_
  refine L_nil ?_
  refine E_n ?_
  refine wp_seq ?_
  refine wp_seq ?_
  refine L_region ?_
  refine L_mv ?_
  refine L_u (N_cl Tryz.func145 rfl nn145 (fun w Q h => s145 _ w Q h) h) ?_
  intro v w h
  refine L_as ?_
  refine L_nil ?_
  refine E_n ?_
  refine wp_seq ?_
  refine L_region ?_
  refine L_mv ?_
  refine L_u (P_nei h) ?_
  intro v w h
  refine L_nil ?_
  refine E_n ?_
  refine C_cnd h (fun h => ?_) (fun h => ?_)
  · refine wp_seq ?_
    refine L_region ?_
    refine L_mv ?_
    refine L_as ?_
    refine L_nil ?_
    refine E_n ?_
    refine C_ret ?_
    show bodyPost Tryz.prog Tryz.f114 (Rt Q) .ret _ _
    exact post_tmps (ts := [2]) (.inr rfl) rfl h
  · refine C_skip ?_
    refine E_n ?_
    refine wp_seq ?_
    refine wp_seq ?_
    refine L_region ?_
    refine L_mv ?_
    refine L_u (P_nc h) ?_
    intro v w h
    refine L_u (P_fa fo130_1 h) ?_
    intro v w h
    refine L_u (P_ld sc128 h) ?_
    intro v w h
    refine L_u (P_sm rfl h) ?_
    intro v w h
    refine L_nil ?_
    refine E_n ?_
    refine C_join (fun (k : Value → M) (ρ : Nat → Value) => k (ρ 0)) h (fun j1 J1 h => ?_) (fun ρ w h => ?_)
    · refine C_blk ?_
      refine C_lo (fun (l : Value → Value → M) (ρ : Nat → Value) => l (ρ 0) (ρ 15)) h (fun ρ w h => h) (fun nx self2 L2 ρ w h => ?_)
      unfold f114_b2 at h
      refine wp_seq ?_
      refine L_region ?_
      refine L_u (P_sm rfl h) ?_
      intro v w h
      refine L_u (P_ex h) ?_
      intro v w h
      refine L_nil ?_
      refine E_n ?_
      refine wp_seq ?_
      refine C_cnd h (fun h => ?_) (fun h => ?_)
      · refine C_skip ?_
        refine E_n ?_
        refine C_blk ?_
        refine wp_seq ?_
        refine L_region ?_
        refine L_u (P_smr rfl h) ?_
        intro v w h
        refine L_u (P_ex h) ?_
        intro v w h
        refine L_u (P_ex h) ?_
        intro v w h
        refine L_u (P_al ze145 rfl h) ?_
        intro v w h
        refine L_as ?_
        refine L_u (P_stn ag145 h) ?_
        intro w h
        refine L_nil ?_
        refine E_n ?_
        refine D_region (by decide +kernel) 8 rfl ?_
        replace h := dr_e h
        refine G_p 0 rfl (by decide +kernel) (Y_mv h) ?_
        intro v h
        refine G_p 1 rfl (by decide +kernel) (Y_nc h) ?_
        intro v h
        refine G_p 2 rfl (by decide +kernel) (Y_fa fo130_0 h) ?_
        intro v h
        refine G_r _ 3 rfl (by decide +kernel) (R_ld sc127 h) ?_
        intro v h
        refine G_p 4 rfl (by decide +kernel) (Y_mv h) ?_
        intro v h
        refine G_r _ 5 rfl (by decide +kernel) (R_ldn ag145 h) ?_
        intro v h
        refine G_p 6 rfl (by decide +kernel) (Y_ia se127 h) ?_
        intro v h
        refine G_e 7 rfl (by decide +kernel) (P_stn ag145 h ?_)
        intro w h
        refine ⟨keepF_dep [5] (by decide +kernel) rfl (keepF_dep [3] (by decide +kernel) rfl keepF_nil), ?_⟩
        refine G_done (by decide +kernel) ?_
        refine B_n ?_
        refine E_n ?_
        exact L2 _ _ h
      · refine C_exit ?_
        refine E_x ?_
        refine E_x ?_
        refine B_x ?_
        exact J1 _ _ h
    · unfold f114_j1 at h
      refine E_n ?_
      refine wp_seq ?_
      refine L_region ?_
      refine L_mv ?_
      refine L_u (P_nc h) ?_
      intro v w h
      refine L_u (P_fa fo130_1 h) ?_
      intro v w h
      refine L_u (P_ld sc128 h) ?_
      intro v w h
      refine L_u (N_bin rfl h) ?_
      intro w h
      refine L_nil ?_
      refine E_n ?_
      refine wp_seq ?_
      refine L_region ?_
      refine L_as ?_
      refine L_nil ?_
      refine E_n ?_
      refine C_ret ?_
      show bodyPost Tryz.prog Tryz.f114 (Rt Q) .ret _ _
      exact post_tmps (ts := [2]) (.inr rfl) rfl h

/- factotum/undo.whole -/
def f148 (t0 : Value) : M :=
  dr <|
  idv t0 fun t3 =>
  smr Tryz.prog (convert 42 9 t3) fun t4 =>
  idv t0 fun t5 =>
  lnl t5 fun t6 =>
  su .i64 (.int .i64 64) t6 fun t7 =>
  cc Tryz.prog 106 #[(.string ⟨#[0]⟩), t7] fun t8 =>
  kp (Ksm Tryz.prog (convert 42 9 t3) t4) <|
  cat t4 t8 fun t9 =>
  idv t9 fun t2 =>
  rt t2
theorem s148 (t0 : Value) (w : World) (Q : Value → World → Prop) (h : f148 t0 w Q) : Calls Tryz.prog 148 #[t0] w (Rt Q) := by
  refine calls_of (l := [t0]) Tryz.func148 rfl Tryz.ntmps148 (Nat.le_of_ble_eq_true rfl) ?_
  unfold f148 at h
  refine wp_seq ?_
  refine L_region ?_
  refine L_as ?_
  refine L_nil ?_
  refine E_n ?_
  refine wp_seq ?_
  refine D_region (by decide +kernel) 8 rfl ?_
  replace h := dr_e h
  refine G_p 0 rfl (by decide +kernel) (Y_mv h) ?_
  intro v h
  refine G_r _ 1 rfl (by decide +kernel) (R_sm rfl h) ?_
  intro v h
  refine G_p 2 rfl (by decide +kernel) (Y_mv h) ?_
  intro v h
  refine G_p 3 rfl (by decide +kernel) (Y_lnl is42 h) ?_
  intro v h
  refine G_p 4 rfl (by decide +kernel) (Y_su h) ?_
  intro v h
  refine G_e 5 rfl (by decide +kernel) (N_cc Tryz.func106 rfl nn106 h ?_)
  intro v w h
  refine ⟨keepF_cons (kp_1 h) keepF_nil, ?_⟩
  replace h := (kp_2 h)
  refine G_p 6 rfl (by decide +kernel) (Y_cat h) ?_
  intro v h
  refine G_p 7 rfl (by decide +kernel) (Y_as h) ?_
  intro v h
  refine G_done (by decide +kernel) ?_
  refine E_n ?_
  refine C_ret ?_
  show bodyPost Tryz.prog Tryz.f148 (Rt Q) .ret _ _
  exact post_tmps (ts := [2]) (.inr rfl) rfl h

/- factotum/undo.Mark -/
def f146 (t0 : Value) : M :=
  cnd t0 (
    sm Tryz.prog (Instr.buildSlice 42 1 #[(0, (.int .u8 1))]) fun t4 =>
    cl (f148 t4) fun t5 =>
    rt t5
    ) (
    cl (f148 (.slice none 0 0)) fun t6 =>
    rt t6
    )
theorem s146 (t0 : Value) (w : World) (Q : Value → World → Prop) (h : f146 t0 w Q) : Calls Tryz.prog 146 #[t0] w (Rt Q) := by
  refine calls_of (l := [t0]) Tryz.func146 rfl Tryz.ntmps146 (Nat.le_of_ble_eq_true rfl) ?_
  unfold f146 at h
  refine wp_seq ?_
  refine L_region ?_
  refine L_as ?_
  refine L_nil ?_
  refine E_n ?_
  refine wp_seq ?_
  refine wp_seq ?_
  refine L_region ?_
  refine L_mv ?_
  refine L_nil ?_
  refine E_n ?_
  refine C_cnd h (fun h => ?_) (fun h => ?_)
  · refine wp_seq ?_
    refine L_region ?_
    refine L_u (N_bsl h) ?_
    intro v w h
    refine L_u (N_cl Tryz.func148 rfl nn148 (fun w Q h => s148 _ w Q h) h) ?_
    intro v w h
    refine L_as ?_
    refine L_nil ?_
    refine E_n ?_
    refine C_ret ?_
    show bodyPost Tryz.prog Tryz.f146 (Rt Q) .ret _ _
    exact post_tmps (ts := [2]) (.inr rfl) rfl h
  · refine C_skip ?_
    refine E_n ?_
    refine wp_seq ?_
    refine L_region ?_
    refine L_u (N_cl Tryz.func148 rfl nn148 (fun w Q h => s148 _ w Q h) h) ?_
    intro v w h
    refine L_as ?_
    refine L_nil ?_
    refine E_n ?_
    refine C_ret ?_
    show bodyPost Tryz.prog Tryz.f146 (Rt Q) .ret _ _
    exact post_tmps (ts := [2]) (.inr rfl) rfl h

/- (*factotum/pager.Pager).mark -/
def f115 (t0 t1 : Value) : M :=
  dr <|
  idv t0 fun t5 =>
  idv t1 fun t6 =>
  idv t0 fun t9 =>
  nc t9 fun t10 =>
  fa 0 t10 fun t11 =>
  ld t11 fun t12 =>
  idv (.func (.func 114) #[t12] #[]) fun t13 =>
  cl (f146 t6) fun t7 =>
  kp (Kld t11 t12) <|
  cl (f119 t5 (.int .i64 0) t7) fun t8 =>
  kp (Kld t11 t12) <|
  sm Tryz.prog (Instr.buildSlice 138 2 #[(0, t8), (1, t13)]) fun t14 =>
  idv t14 fun t4 =>
  rt t4
theorem s115 (t0 t1 : Value) (w : World) (Q : Value → World → Prop) (h : f115 t0 t1 w Q) : Calls Tryz.prog 115 #[t0, t1] w (Rt Q) := by
  refine calls_of (l := [t0, t1]) Tryz.func115 rfl Tryz.ntmps115 (Nat.le_of_ble_eq_true rfl) ?_
  unfold f115 at h
  refine wp_seq ?_
  refine L_region ?_
  refine L_as ?_
  refine L_nil ?_
  refine E_n ?_
  refine wp_seq ?_
  refine D_region (by decide +kernel) 11 rfl ?_
  replace h := dr_e h
  refine G_p 0 rfl (by decide +kernel) (Y_mv h) ?_
  intro v h
  refine G_p 1 rfl (by decide +kernel) (Y_mv h) ?_
  intro v h
  refine G_p 4 rfl (by decide +kernel) (Y_mv h) ?_
  intro v h
  refine G_p 5 rfl (by decide +kernel) (Y_nc h) ?_
  intro v h
  refine G_p 6 rfl (by decide +kernel) (Y_fa fo133_0 h) ?_
  intro v h
  refine G_r _ 7 rfl (by decide +kernel) (R_ld sc63 h) ?_
  intro v h
  refine G_p 8 rfl (by decide +kernel) (Y_nmf h) ?_
  intro v h
  refine G_e 2 rfl (by decide +kernel) (N_cl Tryz.func146 rfl nn146 (fun w Q h => s146 _ w Q h) h ?_)
  intro v w h
  refine ⟨keepF_cons (kp_1 h) keepF_nil, ?_⟩
  replace h := (kp_2 h)
  refine G_e 3 rfl (by decide +kernel) (N_cl Tryz.func119 rfl nn119 (fun w Q h => s119 _ _ _ w Q h) h ?_)
  intro v w h
  refine ⟨keepF_cons (kp_1 h) keepF_nil, ?_⟩
  replace h := (kp_2 h)
  refine G_e 9 rfl (by decide +kernel) (N_bsl h ?_)
  intro v w h
  refine ⟨keepF_dep [8, 7] (by decide +kernel) rfl keepF_nil, ?_⟩
  refine G_p 10 rfl (by decide +kernel) (Y_as h) ?_
  intro v h
  refine G_done (by decide +kernel) ?_
  refine E_n ?_
  refine C_ret ?_
  show bodyPost Tryz.prog Tryz.f115 (Rt Q) .ret _ _
  exact post_tmps (ts := [4]) (.inr rfl) rfl h

/- (*factotum/pager.Pager).recover -/
def f87_b2 (j1 : Value → Value → M) (self2 : Value → Value → Value → Value → Value → M) (t0_1 t5 t19 t20_1 t21 : Value) : M :=
  lt .i64 t21 t20_1 fun t22 =>
  cnd t22 (
    ia 1 t19 t21 fun t24 =>
    ld t24 fun t25 =>
    al 3 #[(.int .i64 0)] fun t6 =>
    al 3 #[(.int .i64 0)] fun t7 =>
    st t6 t21 <|
    st t7 t25 <|
    dr <|
    ld t7 fun t26 =>
    idv t0_1 fun t27 =>
    nc t27 fun t28 =>
    fa 1 t28 fun t29 =>
    ld t29 fun t30 =>
    lnl t30 fun t31 =>
    ge .i64 t26 t31 fun t32 =>
    cnd t32 (
      rt (.int .i64 10)
      ) (
      dr <|
      idv t0_1 fun t33 =>
      nc t33 fun t34 =>
      fa 1 t34 fun t35 =>
      ld t35 fun t36 =>
      ld t7 fun t37 =>
      idv t0_1 fun t38 =>
      idv (.func (.func 110) #[] #[t6]) fun t39 =>
      cl (f83 t38 t39) fun t40 =>
      kp (Kld t7 t37) <|
      kp (Kld t35 t36) <|
      ia 1 t36 t37 fun t41 =>
      st t41 t40 <|
      dr <|
      idv t5 fun t42 =>
      idv t0_1 fun t43 =>
      idv (.func (.func 113) #[] #[t7]) fun t44 =>
      idv t0_1 fun t45 =>
      nc t45 fun t46 =>
      fa 1 t46 fun t47 =>
      ld t47 fun t48 =>
      ld t7 fun t49 =>
      ia 1 t48 t49 fun t50 =>
      ld t50 fun t51 =>
      cl (f112 t43 t44 t51) fun t52 =>
      sm Tryz.prog (Builtin.append_ #[138, 138] 138 #[t42, t52]) fun t53 =>
      idv t53 fun t5_1 =>
      ad .i64 t21 (.int .i64 1) fun t54 =>
      self2 t0_1 t5_1 t19 t20_1 t54
      )
    ) (
    j1 t0_1 t5
    )
def f87_j1 (t0_2 t5_2 : Value) : M :=
  nc t0_2 fun t57 =>
  fa 0 t57 fun t58 =>
  ld t58 fun t59 =>
  idv (.func (.func 114) #[t59] #[]) fun t60 =>
  sm Tryz.prog (Instr.buildSlice 138 1 #[(0, t60)]) fun t61 =>
  sm Tryz.prog (Builtin.append_ #[138, 138] 138 #[t5_2, t61]) fun t62 =>
  cl (f115 t0_2 (.bool false)) fun t64 =>
  sm Tryz.prog (Builtin.append_ #[138, 138] 138 #[t62, t64]) fun t65 =>
  cl (f90 t65) fun t67 =>
  rt t67
def f87 (t0 : Value) : M :=
  nc t0 fun t10 =>
  fa 0 t10 fun t11 =>
  ld t11 fun t12 =>
  cl (f86 t12 (.int .i64 1)) fun t13 =>
  cl (f109 t13) fun t14 =>
  ex 0 t14 fun t15 =>
  ex 1 t14 fun t16 =>
  nei .i64 t16 (.int .i64 0) fun t18 =>
  cnd t18 (
    rt (.int .i64 10)
    ) (
    lnl t15 fun t20 =>
    jn (fun (j1 : Value → Value → M) =>
      lo (fun _ _ _ _ _ => bot) (f87_b2 j1) (fun l => l t0 (.slice none 0 0) t15 t20 (.int .i64 0))
      ) (f87_j1)
    )
theorem s87 (t0 : Value) (w : World) (Q : Value → World → Prop) (h : f87 t0 w Q) : Calls Tryz.prog 87 #[t0] w (Rt Q) := by
  refine calls_of (l := [t0]) Tryz.func87 rfl Tryz.ntmps87 (Nat.le_of_ble_eq_true rfl) ?_
  unfold f87 at h
  refine wp_seq ?_
  refine L_region ?_
  refine L_as ?_
  refine L_nil ?_
  refine E_n ?_
  refine wp_seq ?_
  refine L_region ?_
  refine L_mv ?_
  refine L_u (P_nc h) ?_
  intro v w h
  refine L_u (P_fa fo133_0 h) ?_
  intro v w h
  refine L_u (P_ld sc63 h) ?_
  intro v w h
  refine L_u (N_cl Tryz.func86 rfl nn86 (fun w Q h => s86 _ _ w Q h) h) ?_
  intro v w h
  refine L_u (N_cl Tryz.func109 rfl nn109 (fun w Q h => s109 _ w Q h) h) ?_
  intro v w h
  refine L_mv ?_
  refine L_u (P_ex h) ?_
  intro v w h
  refine L_u (P_ex h) ?_
  intro v w h
  refine L_as ?_
  refine L_as ?_
  refine L_nil ?_
  refine E_n ?_
  refine wp_seq ?_
  refine wp_seq ?_
  refine L_region ?_
  refine L_mv ?_
  refine L_u (P_nei h) ?_
  intro v w h
  refine L_nil ?_
  refine E_n ?_
  refine C_cnd h (fun h => ?_) (fun h => ?_)
  · refine wp_seq ?_
    refine L_region ?_
    refine L_as ?_
    refine L_nil ?_
    refine E_n ?_
    refine C_ret ?_
    show bodyPost Tryz.prog Tryz.f87 (Rt Q) .ret _ _
    exact post_tmps (ts := [2]) (.inr rfl) rfl h
  · refine C_skip ?_
    refine E_n ?_
    refine wp_seq ?_
    refine L_region ?_
    refine L_as ?_
    refine L_nil ?_
    refine E_n ?_
    refine wp_seq ?_
    refine wp_seq ?_
    refine L_region ?_
    refine L_mv ?_
    refine L_u (P_lnl is22 h) ?_
    intro v w h
    refine L_mv ?_
    refine L_nil ?_
    refine E_n ?_
    refine C_join (fun (k : Value → Value → M) (ρ : Nat → Value) => k (ρ 0) (ρ 5)) h (fun j1 J1 h => ?_) (fun ρ w h => ?_)
    · refine C_blk ?_
      refine C_lo (fun (l : Value → Value → Value → Value → Value → M) (ρ : Nat → Value) => l (ρ 0) (ρ 5) (ρ 19) (ρ 20) (ρ 21)) h (fun ρ w h => h) (fun nx self2 L2 ρ w h => ?_)
      unfold f87_b2 at h
      refine wp_seq ?_
      refine L_region ?_
      refine L_u (P_lt h) ?_
      intro v w h
      refine L_nil ?_
      refine E_n ?_
      refine wp_seq ?_
      refine C_cnd h (fun h => ?_) (fun h => ?_)
      · refine C_skip ?_
        refine E_n ?_
        refine wp_seq ?_
        refine C_blk ?_
        refine wp_seq ?_
        refine L_region ?_
        refine L_mv ?_
        refine L_u (P_ia se22 h) ?_
        intro v w h
        refine L_u (P_ld sc3 h) ?_
        intro v w h
        refine L_u (P_al ze3 rfl h) ?_
        intro v w h
        refine L_u (P_al ze3 rfl h) ?_
        intro v w h
        refine L_u (P_st on3 h) ?_
        intro w h
        refine L_u (P_st on3 h) ?_
        intro w h
        refine L_nil ?_
        refine E_n ?_
        refine wp_seq ?_
        refine wp_seq ?_
        refine D_region (by decide +kernel) 7 rfl ?_
        replace h := dr_e h
        refine G_r _ 0 rfl (by decide +kernel) (R_ld sc3 h) ?_
        intro v h
        refine G_p 1 rfl (by decide +kernel) (Y_mv h) ?_
        intro v h
        refine G_p 2 rfl (by decide +kernel) (Y_nc h) ?_
        intro v h
        refine G_p 3 rfl (by decide +kernel) (Y_fa fo133_1 h) ?_
        intro v h
        refine G_r _ 4 rfl (by decide +kernel) (R_ld sc100 h) ?_
        intro v h
        refine G_p 5 rfl (by decide +kernel) (Y_lnl is100 h) ?_
        intro v h
        refine G_p 6 rfl (by decide +kernel) (Y_ge h) ?_
        intro v h
        refine G_done (by decide +kernel) ?_
        refine E_n ?_
        refine C_cnd h (fun h => ?_) (fun h => ?_)
        · refine wp_seq ?_
          refine L_region ?_
          refine L_as ?_
          refine L_nil ?_
          refine E_n ?_
          refine C_ret ?_
          show bodyPost Tryz.prog Tryz.f87 (Rt Q) .ret _ _
          exact post_tmps (ts := [2]) (.inr rfl) rfl h
        · refine C_skip ?_
          refine E_n ?_
          refine wp_seq ?_
          refine D_region (by decide +kernel) 10 rfl ?_
          replace h := dr_e h
          refine G_p 0 rfl (by decide +kernel) (Y_mv h) ?_
          intro v h
          refine G_p 1 rfl (by decide +kernel) (Y_nc h) ?_
          intro v h
          refine G_p 2 rfl (by decide +kernel) (Y_fa fo133_1 h) ?_
          intro v h
          refine G_r _ 3 rfl (by decide +kernel) (R_ld sc100 h) ?_
          intro v h
          refine G_r _ 4 rfl (by decide +kernel) (R_ld sc3 h) ?_
          intro v h
          refine G_p 5 rfl (by decide +kernel) (Y_mv h) ?_
          intro v h
          refine G_p 6 rfl (by decide +kernel) (Y_nmf h) ?_
          intro v h
          refine G_e 7 rfl (by decide +kernel) (N_cl Tryz.func83 rfl nn83 (fun w Q h => s83 _ _ w Q h) h ?_)
          intro v w h
          refine ⟨keepF_cons (kp_1 h) (keepF_cons (kp_1 (kp_2 h)) keepF_nil), ?_⟩
          replace h := (kp_2 (kp_2 h))
          refine G_p 8 rfl (by decide +kernel) (Y_ia se100 h) ?_
          intro v h
          refine G_e 9 rfl (by decide +kernel) (P_st on9 h ?_)
          intro w h
          refine ⟨keepF_dep [4] (by decide +kernel) rfl (keepF_dep [3] (by decide +kernel) rfl keepF_nil), ?_⟩
          refine G_done (by decide +kernel) ?_
          refine E_n ?_
          refine D_region (by decide +kernel) 13 rfl ?_
          replace h := dr_e h
          refine G_p 0 rfl (by decide +kernel) (Y_mv h) ?_
          intro v h
          refine G_p 1 rfl (by decide +kernel) (Y_mv h) ?_
          intro v h
          refine G_p 2 rfl (by decide +kernel) (Y_nmf h) ?_
          intro v h
          refine G_p 3 rfl (by decide +kernel) (Y_mv h) ?_
          intro v h
          refine G_p 4 rfl (by decide +kernel) (Y_nc h) ?_
          intro v h
          refine G_p 5 rfl (by decide +kernel) (Y_fa fo133_1 h) ?_
          intro v h
          refine G_r _ 6 rfl (by decide +kernel) (R_ld sc100 h) ?_
          intro v h
          refine G_r _ 7 rfl (by decide +kernel) (R_ld sc3 h) ?_
          intro v h
          refine G_p 8 rfl (by decide +kernel) (Y_ia se100 h) ?_
          intro v h
          refine G_r _ 9 rfl (by decide +kernel) (R_ld sc9 h) ?_
          intro v h
          refine G_e 10 rfl (by decide +kernel) (N_cl Tryz.func112 rfl nn112 (fun w Q h => s112 _ _ _ w Q h) h ?_)
          intro v w h
          refine ⟨keepF_dep [9] (by decide +kernel) rfl (keepF_dep [9, 8, 7] (by decide +kernel) rfl (keepF_dep [9, 8, 6] (by decide +kernel) rfl keepF_nil)), ?_⟩
          refine G_e 11 rfl (by decide +kernel) (N_bi rfl h ?_)
          intro v w h
          refine ⟨keepF_dep [10, 9] (by decide +kernel) rfl (keepF_dep [10, 9, 8, 7] (by decide +kernel) rfl (keepF_dep [10, 9, 8, 6] (by decide +kernel) rfl keepF_nil)), ?_⟩
          refine G_p 12 rfl (by decide +kernel) (Y_as h) ?_
          intro v h
          refine G_done (by decide +kernel) ?_
          refine B_n ?_
          refine E_n ?_
          refine L_region ?_
          refine L_u (P_ad h) ?_
          intro v w h
          refine L_mv ?_
          refine L_nil ?_
          refine E_n ?_
          exact L2 _ _ h
      · refine C_exit ?_
        refine E_x ?_
        refine E_x ?_
        refine B_x ?_
        exact J1 _ _ h
    · unfold f87_j1 at h
      refine E_n ?_
      refine wp_seq ?_
      refine L_region ?_
      refine L_mv ?_
      refine L_mv ?_
      refine L_u (P_nc h) ?_
      intro v w h
      refine L_u (P_fa fo133_0 h) ?_
      intro v w h
      refine L_u (P_ld sc63 h) ?_
      intro v w h
      refine L_u (N_mf h) ?_
      intro v w h
      refine L_u (N_bsl h) ?_
      intro v w h
      refine L_u (N_bi rfl h) ?_
      intro v w h
      refine L_mv ?_
      refine L_u (N_cl Tryz.func115 rfl nn115 (fun w Q h => s115 _ _ w Q h) h) ?_
      intro v w h
      refine L_u (N_bi rfl h) ?_
      intro v w h
      refine L_as ?_
      refine L_nil ?_
      refine E_n ?_
      refine wp_seq ?_
      refine L_region ?_
      refine L_mv ?_
      refine L_u (N_cl Tryz.func90 rfl nn90 (fun w Q h => s90 _ w Q h) h) ?_
      intro v w h
      refine L_as ?_
      refine L_nil ?_
      refine E_n ?_
      refine C_ret ?_
      show bodyPost Tryz.prog Tryz.f87 (Rt Q) .ret _ _
      exact post_tmps (ts := [2]) (.inr rfl) rfl h

/- factotum/pager.Open -/
def f40_b2 (j1 : Value → Value → M) (self2 : Value → Value → Value → Value → M) (t0_1 t6 t29 t30 : Value) : M :=
  lt .i64 t30 t29 fun t31 =>
  cnd t31 (
    al 3 #[(.int .i64 0)] fun t7 =>
    st t7 t30 <|
    dr <|
    idv t6 fun t33 =>
    idv t6 fun t34 =>
    nc t34 fun t35 =>
    fa 1 t35 fun t36 =>
    ld t36 fun t37 =>
    idv t6 fun t38 =>
    idv (.func (.func 84) #[] #[t7]) fun t39 =>
    cl (f83 t38 t39) fun t40 =>
    kp (Kld t36 t37) <|
    sm Tryz.prog (Instr.buildSlice 100 1 #[(0, t40)]) fun t41 =>
    kp (Kld t36 t37) <|
    sm Tryz.prog (Builtin.append_ #[100, 100] 100 #[t37, t41]) fun t42 =>
    nc t33 fun t43 =>
    fa 1 t43 fun t44 =>
    st t44 t42 <|
    ad .i64 t30 (.int .i64 1) fun t45 =>
    self2 t0_1 t6 t29 t45
    ) (
    j1 t0_1 t6
    )
def f40_j3 (t6_2 : Value) : M :=
  rt (.tuple #[t6_2, (.int .i64 0)])
def f40_j1 (t0_2 t6_1 : Value) : M :=
  cl (f86 t0_2 (.int .i64 0)) fun t47 =>
  cl (f85 t47) fun t48 =>
  jn (fun (j3 : Value → M) =>
    cnd t48 (
      cl (f87 t6_1) fun t50 =>
      nei .i64 t50 (.int .i64 0) fun t52 =>
      cnd t52 (
        rt (.tuple #[(.pointer none), t50])
        ) (
        j3 t6_1
        )
      ) (
      j3 t6_1
      )
    ) (f40_j3)
def f40 (t0 t1 : Value) : M :=
  smr Tryz.prog (do eqGuard .eql 63 (.tmp 9) (.const (.pointer none)) t0 (.pointer none); binOp .eql 63 t0 (.pointer none)) fun t10 =>
  gd t10 false (idv t1) fun t12 =>
  gd t10 false (lt .i64 t12 (.int .i64 1)) fun t13 =>
  pk t10 (.bool true) t13 fun t14 =>
  gd t14 false (idv t1) fun t16 =>
  gd t14 false (gt .i64 t16 (.int .i64 160)) fun t17 =>
  pk t14 (.bool true) t17 fun t18 =>
  gd t18 false (idv t0) fun t20 =>
  gd t18 false (cl (f82 t20)) fun t21 =>
  gd t18 false (idv t1) fun t22 =>
  gd t18 false (cl (f39 t22)) fun t23 =>
  gd t18 false (lt .i64 t21 t23) fun t24 =>
  pk t18 (.bool true) t24 fun t25 =>
  cnd t25 (
    rt (.tuple #[(.pointer none), (.int .i64 1)])
    ) (
    smr Tryz.prog (Instr.build 133 #[(0, t0)]) fun t27 =>
    bx 133 t27 fun t28 =>
    jn (fun (j1 : Value → Value → M) =>
      lo (fun _ _ _ _ => bot) (f40_b2 j1) (fun l => l t0 t28 t1 (.int .i64 0))
      ) (f40_j1)
    )
theorem s40 (t0 t1 : Value) (w : World) (Q : Value → World → Prop) (h : f40 t0 t1 w Q) : Calls Tryz.prog 40 #[t0, t1] w (Rt Q) := by
  refine calls_of (l := [t0, t1]) Tryz.func40 rfl Tryz.ntmps40 (Nat.le_of_ble_eq_true rfl) ?_
  unfold f40 at h
  refine wp_seq ?_
  refine L_region ?_
  refine L_as ?_
  refine L_as ?_
  refine L_nil ?_
  refine E_n ?_
  refine wp_seq ?_
  refine wp_seq ?_
  refine L_region ?_
  refine L_mv ?_
  refine L_u (P_smr rfl h) ?_
  intro v w h
  refine L_mv ?_
  refine L_g (t := 11) h rfl rfl (fun c h => P_mv h c) ?_
  intro v w h
  refine L_g (t := 11) h rfl rfl (fun c h => P_lt h c) ?_
  intro v w h
  refine L_u (P_pk h) ?_
  intro v w h
  refine L_mv ?_
  refine L_g (t := 15) h rfl rfl (fun c h => P_mv h c) ?_
  intro v w h
  refine L_g (t := 15) h rfl rfl (fun c h => P_gt h c) ?_
  intro v w h
  refine L_u (P_pk h) ?_
  intro v w h
  refine L_mv ?_
  refine L_g (t := 19) h rfl rfl (fun c h => P_mv h c) ?_
  intro v w h
  refine L_g (t := 19) h rfl rfl (fun c h => N_cl Tryz.func82 rfl nn82 (fun w Q h => s82 _ w Q h) h c) ?_
  intro v w h
  refine L_g (t := 19) h rfl rfl (fun c h => P_mv h c) ?_
  intro v w h
  refine L_g (t := 19) h rfl rfl (fun c h => N_cl Tryz.func39 rfl nn39 (fun w Q h => s39 _ w Q h) h c) ?_
  intro v w h
  refine L_g (t := 19) h rfl rfl (fun c h => P_lt h c) ?_
  intro v w h
  refine L_u (P_pk h) ?_
  intro v w h
  refine L_nil ?_
  refine E_n ?_
  refine C_cnd h (fun h => ?_) (fun h => ?_)
  · refine wp_seq ?_
    refine L_region ?_
    refine L_as ?_
    refine L_as ?_
    refine L_nil ?_
    refine E_n ?_
    refine C_ret ?_
    show bodyPost Tryz.prog Tryz.f40 (Rt Q) .ret _ _
    exact post_tmps (ts := [4, 5]) (.inr rfl) rfl h
  · refine C_skip ?_
    refine E_n ?_
    refine wp_seq ?_
    refine L_region ?_
    refine L_mv ?_
    refine L_u (N_bld h) ?_
    intro v w h
    refine L_u (P_bx h) ?_
    intro v w h
    refine L_as ?_
    refine L_nil ?_
    refine E_n ?_
    refine wp_seq ?_
    refine wp_seq ?_
    refine L_region ?_
    refine L_mv ?_
    refine L_mv ?_
    refine L_nil ?_
    refine E_n ?_
    refine C_join (fun (k : Value → Value → M) (ρ : Nat → Value) => k (ρ 0) (ρ 6)) h (fun j1 J1 h => ?_) (fun ρ w h => ?_)
    · refine C_blk ?_
      refine C_lo (fun (l : Value → Value → Value → Value → M) (ρ : Nat → Value) => l (ρ 0) (ρ 6) (ρ 29) (ρ 30)) h (fun ρ w h => h) (fun nx self2 L2 ρ w h => ?_)
      unfold f40_b2 at h
      refine wp_seq ?_
      refine L_region ?_
      refine L_u (P_lt h) ?_
      intro v w h
      refine L_nil ?_
      refine E_n ?_
      refine wp_seq ?_
      refine C_cnd h (fun h => ?_) (fun h => ?_)
      · refine C_skip ?_
        refine E_n ?_
        refine wp_seq ?_
        refine C_blk ?_
        refine wp_seq ?_
        refine L_region ?_
        refine L_mv ?_
        refine L_u (P_al ze3 rfl h) ?_
        intro v w h
        refine L_u (P_st on3 h) ?_
        intro w h
        refine L_nil ?_
        refine E_n ?_
        refine D_region (by decide +kernel) 13 rfl ?_
        replace h := dr_e h
        refine G_p 0 rfl (by decide +kernel) (Y_mv h) ?_
        intro v h
        refine G_p 1 rfl (by decide +kernel) (Y_mv h) ?_
        intro v h
        refine G_p 2 rfl (by decide +kernel) (Y_nc h) ?_
        intro v h
        refine G_p 3 rfl (by decide +kernel) (Y_fa fo133_1 h) ?_
        intro v h
        refine G_r _ 4 rfl (by decide +kernel) (R_ld sc100 h) ?_
        intro v h
        refine G_p 5 rfl (by decide +kernel) (Y_mv h) ?_
        intro v h
        refine G_p 6 rfl (by decide +kernel) (Y_nmf h) ?_
        intro v h
        refine G_e 7 rfl (by decide +kernel) (N_cl Tryz.func83 rfl nn83 (fun w Q h => s83 _ _ w Q h) h ?_)
        intro v w h
        refine ⟨keepF_cons (kp_1 h) keepF_nil, ?_⟩
        replace h := (kp_2 h)
        refine G_e 8 rfl (by decide +kernel) (N_bsl h ?_)
        intro v w h
        refine ⟨keepF_cons (kp_1 h) keepF_nil, ?_⟩
        replace h := (kp_2 h)
        refine G_e 9 rfl (by decide +kernel) (N_bi rfl h ?_)
        intro v w h
        refine ⟨keepF_dep [4] (by decide +kernel) rfl keepF_nil, ?_⟩
        refine G_p 10 rfl (by decide +kernel) (Y_nc h) ?_
        intro v h
        refine G_p 11 rfl (by decide +kernel) (Y_fa fo133_1 h) ?_
        intro v h
        refine G_e 12 rfl (by decide +kernel) (P_st on100 h ?_)
        intro w h
        refine ⟨keepF_dep [4] (by decide +kernel) rfl keepF_nil, ?_⟩
        refine G_done (by decide +kernel) ?_
        refine B_n ?_
        refine E_n ?_
        refine L_region ?_
        refine L_u (P_ad h) ?_
        intro v w h
        refine L_mv ?_
        refine L_nil ?_
        refine E_n ?_
        exact L2 _ _ h
      · refine C_exit ?_
        refine E_x ?_
        refine E_x ?_
        refine B_x ?_
        exact J1 _ _ h
    · unfold f40_j1 at h
      refine E_n ?_
      refine wp_seq ?_
      refine wp_seq ?_
      refine L_region ?_
      refine L_mv ?_
      refine L_u (N_cl Tryz.func86 rfl nn86 (fun w Q h => s86 _ _ w Q h) h) ?_
      intro v w h
      refine L_u (N_cl Tryz.func85 rfl nn85 (fun w Q h => s85 _ w Q h) h) ?_
      intro v w h
      refine L_nil ?_
      refine E_n ?_
      refine C_join (fun (k : Value → M) (ρ : Nat → Value) => k (ρ 6)) h (fun j3 J3 h => ?_) (fun ρ w h => ?_)
      · refine C_cnd h (fun h => ?_) (fun h => ?_)
        · refine wp_seq ?_
          refine L_region ?_
          refine L_mv ?_
          refine L_u (N_cl Tryz.func87 rfl nn87 (fun w Q h => s87 _ w Q h) h) ?_
          intro v w h
          refine L_as ?_
          refine L_nil ?_
          refine E_n ?_
          refine wp_seq ?_
          refine L_region ?_
          refine L_mv ?_
          refine L_u (P_nei h) ?_
          intro v w h
          refine L_nil ?_
          refine E_n ?_
          refine C_cnd h (fun h => ?_) (fun h => ?_)
          · refine wp_seq ?_
            refine L_region ?_
            refine L_mv ?_
            refine L_as ?_
            refine L_as ?_
            refine L_nil ?_
            refine E_n ?_
            refine C_ret ?_
            show bodyPost Tryz.prog Tryz.f40 (Rt Q) .ret _ _
            exact post_tmps (ts := [4, 5]) (.inr rfl) rfl h
          · refine C_skip ?_
            exact J3 _ _ h
        · refine C_skip ?_
          exact J3 _ _ h
      · unfold f40_j3 at h
        refine E_n ?_
        refine wp_seq ?_
        refine L_region ?_
        refine L_mv ?_
        refine L_as ?_
        refine L_as ?_
        refine L_nil ?_
        refine E_n ?_
        refine C_ret ?_
        show bodyPost Tryz.prog Tryz.f40 (Rt Q) .ret _ _
        exact post_tmps (ts := [4, 5]) (.inr rfl) rfl h

/- factotum/factotumlaw08.fresh -/
def f17 (t0 : Value) : M :=
  cl (f39 t0) fun t7 =>
  cl (f38 t7) fun t8 =>
  cl (f40 t8 t0) fun t10 =>
  ex 0 t10 fun t11 =>
  ex 1 t10 fun t12 =>
  nei .i64 t12 (.int .i64 0) fun t14 =>
  cnd t14 (
    rt (.pointer none)
    ) (
    cl (f23 t11 (.int .i64 4)) fun t16 =>
    rt t16
    )
theorem s17 (t0 : Value) (w : World) (Q : Value → World → Prop) (h : f17 t0 w Q) : Calls Tryz.prog 17 #[t0] w (Rt Q) := by
  refine calls_of (l := [t0]) Tryz.func17 rfl Tryz.ntmps17 (Nat.le_of_ble_eq_true rfl) ?_
  unfold f17 at h
  refine wp_seq ?_
  refine L_region ?_
  refine L_as ?_
  refine L_nil ?_
  refine E_n ?_
  refine wp_seq ?_
  refine L_region ?_
  refine L_mv ?_
  refine L_u (N_cl Tryz.func39 rfl nn39 (fun w Q h => s39 _ w Q h) h) ?_
  intro v w h
  refine L_u (N_cl Tryz.func38 rfl nn38 (fun w Q h => s38 _ w Q h) h) ?_
  intro v w h
  refine L_mv ?_
  refine L_u (N_cl Tryz.func40 rfl nn40 (fun w Q h => s40 _ _ w Q h) h) ?_
  intro v w h
  refine L_mv ?_
  refine L_u (P_ex h) ?_
  intro v w h
  refine L_u (P_ex h) ?_
  intro v w h
  refine L_as ?_
  refine L_as ?_
  refine L_nil ?_
  refine E_n ?_
  refine wp_seq ?_
  refine wp_seq ?_
  refine L_region ?_
  refine L_mv ?_
  refine L_u (P_nei h) ?_
  intro v w h
  refine L_nil ?_
  refine E_n ?_
  refine C_cnd h (fun h => ?_) (fun h => ?_)
  · refine wp_seq ?_
    refine L_region ?_
    refine L_as ?_
    refine L_nil ?_
    refine E_n ?_
    refine C_ret ?_
    show bodyPost Tryz.prog Tryz.f17 (Rt Q) .ret _ _
    exact post_tmps (ts := [2]) (.inr rfl) rfl h
  · refine C_skip ?_
    refine E_n ?_
    refine wp_seq ?_
    refine L_region ?_
    refine L_mv ?_
    refine L_u (N_cl Tryz.func23 rfl nn23 (fun w Q h => s23 _ _ w Q h) h) ?_
    intro v w h
    refine L_as ?_
    refine L_nil ?_
    refine E_n ?_
    refine C_ret ?_
    show bodyPost Tryz.prog Tryz.f17 (Rt Q) .ret _ _
    exact post_tmps (ts := [2]) (.inr rfl) rfl h

/- (*factotum/pager.Pager).Size -/
def f79 (t0 : Value) : M :=
  smr Tryz.prog (do eqGuard .eql 40 (.tmp 3) (.const (.pointer none)) t0 (.pointer none); binOp .eql 40 t0 (.pointer none)) fun t4 =>
  cnd t4 (
    rt (.int .i64 0)
    ) (
    nc t0 fun t6 =>
    fa 1 t6 fun t7 =>
    ld t7 fun t8 =>
    lnl t8 fun t9 =>
    rt t9
    )
theorem s79 (t0 : Value) (w : World) (Q : Value → World → Prop) (h : f79 t0 w Q) : Calls Tryz.prog 79 #[t0] w (Rt Q) := by
  refine calls_of (l := [t0]) Tryz.func79 rfl Tryz.ntmps79 (Nat.le_of_ble_eq_true rfl) ?_
  unfold f79 at h
  refine wp_seq ?_
  refine L_region ?_
  refine L_as ?_
  refine L_nil ?_
  refine E_n ?_
  refine wp_seq ?_
  refine wp_seq ?_
  refine L_region ?_
  refine L_mv ?_
  refine L_u (P_smr rfl h) ?_
  intro v w h
  refine L_nil ?_
  refine E_n ?_
  refine C_cnd h (fun h => ?_) (fun h => ?_)
  · refine wp_seq ?_
    refine L_region ?_
    refine L_as ?_
    refine L_nil ?_
    refine E_n ?_
    refine C_ret ?_
    show bodyPost Tryz.prog Tryz.f79 (Rt Q) .ret _ _
    exact post_tmps (ts := [2]) (.inr rfl) rfl h
  · refine C_skip ?_
    refine E_n ?_
    refine wp_seq ?_
    refine L_region ?_
    refine L_mv ?_
    refine L_u (P_nc h) ?_
    intro v w h
    refine L_u (P_fa fo133_1 h) ?_
    intro v w h
    refine L_u (P_ld sc100 h) ?_
    intro v w h
    refine L_u (P_lnl is100 h) ?_
    intro v w h
    refine L_as ?_
    refine L_nil ?_
    refine E_n ?_
    refine C_ret ?_
    show bodyPost Tryz.prog Tryz.f79 (Rt Q) .ret _ _
    exact post_tmps (ts := [2]) (.inr rfl) rfl h

/- (*factotum/cache.Cache).Pages -/
def f28 (t0 : Value) : M :=
  smr Tryz.prog (do eqGuard .eql 29 (.tmp 3) (.const (.pointer none)) t0 (.pointer none); binOp .eql 29 t0 (.pointer none)) fun t4 =>
  cnd t4 (
    rt (.int .i64 0)
    ) (
    nc t0 fun t6 =>
    fa 0 t6 fun t7 =>
    ld t7 fun t8 =>
    cl (f79 t8) fun t9 =>
    rt t9
    )
theorem s28 (t0 : Value) (w : World) (Q : Value → World → Prop) (h : f28 t0 w Q) : Calls Tryz.prog 28 #[t0] w (Rt Q) := by
  refine calls_of (l := [t0]) Tryz.func28 rfl Tryz.ntmps28 (Nat.le_of_ble_eq_true rfl) ?_
  unfold f28 at h
  refine wp_seq ?_
  refine L_region ?_
  refine L_as ?_
  refine L_nil ?_
  refine E_n ?_
  refine wp_seq ?_
  refine wp_seq ?_
  refine L_region ?_
  refine L_mv ?_
  refine L_u (P_smr rfl h) ?_
  intro v w h
  refine L_nil ?_
  refine E_n ?_
  refine C_cnd h (fun h => ?_) (fun h => ?_)
  · refine wp_seq ?_
    refine L_region ?_
    refine L_as ?_
    refine L_nil ?_
    refine E_n ?_
    refine C_ret ?_
    show bodyPost Tryz.prog Tryz.f28 (Rt Q) .ret _ _
    exact post_tmps (ts := [2]) (.inr rfl) rfl h
  · refine C_skip ?_
    refine E_n ?_
    refine wp_seq ?_
    refine L_region ?_
    refine L_mv ?_
    refine L_u (P_nc h) ?_
    intro v w h
    refine L_u (P_fa fo124_0 h) ?_
    intro v w h
    refine L_u (P_ld sc40 h) ?_
    intro v w h
    refine L_u (N_cl Tryz.func79 rfl nn79 (fun w Q h => s79 _ w Q h) h) ?_
    intro v w h
    refine L_as ?_
    refine L_nil ?_
    refine E_n ?_
    refine C_ret ?_
    show bodyPost Tryz.prog Tryz.f28 (Rt Q) .ret _ _
    exact post_tmps (ts := [2]) (.inr rfl) rfl h

/- (*factotum/space.Work).may -/
def f70 (t0 : Value) : M :=
  smr Tryz.prog (do eqGuard .eql 25 (.tmp 4) (.const (.pointer none)) t0 (.pointer none); binOp .eql 25 t0 (.pointer none)) fun t5 =>
  cnd t5 (
    rt (.int .i64 1)
    ) (
    nc t0 fun t8 =>
    fa 24 t8 fun t9 =>
    ld t9 fun t10 =>
    cnd t10 (
      rt (.int .i64 13)
      ) (
      rt (.int .i64 0)
      )
    )
theorem s70 (t0 : Value) (w : World) (Q : Value → World → Prop) (h : f70 t0 w Q) : Calls Tryz.prog 70 #[t0] w (Rt Q) := by
  refine calls_of (l := [t0]) Tryz.func70 rfl Tryz.ntmps70 (Nat.le_of_ble_eq_true rfl) ?_
  unfold f70 at h
  refine wp_seq ?_
  refine L_region ?_
  refine L_as ?_
  refine L_nil ?_
  refine E_n ?_
  refine wp_seq ?_
  refine C_blk ?_
  refine wp_seq ?_
  refine L_region ?_
  refine L_mv ?_
  refine L_u (P_smr rfl h) ?_
  intro v w h
  refine L_as ?_
  refine L_nil ?_
  refine E_n ?_
  refine C_cnd h (fun h => ?_) (fun h => ?_)
  · refine wp_seq ?_
    refine L_region ?_
    refine L_as ?_
    refine L_nil ?_
    refine E_n ?_
    refine C_ret ?_
    show bodyPost Tryz.prog Tryz.f70 (Rt Q) .ret _ _
    exact post_tmps (ts := [2]) (.inr rfl) rfl h
  · refine wp_seq ?_
    refine L_region ?_
    refine L_mv ?_
    refine L_u (P_nc h) ?_
    intro v w h
    refine L_u (P_fa fo113_3 h) ?_
    intro v w h
    refine L_u (P_ld sc4 h) ?_
    intro v w h
    refine L_as ?_
    refine L_nil ?_
    refine E_n ?_
    refine C_cnd h (fun h => ?_) (fun h => ?_)
    · refine wp_seq ?_
      refine L_region ?_
      refine L_as ?_
      refine L_nil ?_
      refine E_n ?_
      refine C_ret ?_
      show bodyPost Tryz.prog Tryz.f70 (Rt Q) .ret _ _
      exact post_tmps (ts := [2]) (.inr rfl) rfl h
    · refine C_skip ?_
      refine B_n ?_
      refine E_n ?_
      refine wp_seq ?_
      refine L_region ?_
      refine L_as ?_
      refine L_nil ?_
      refine E_n ?_
      refine C_ret ?_
      show bodyPost Tryz.prog Tryz.f70 (Rt Q) .ret _ _
      exact post_tmps (ts := [2]) (.inr rfl) rfl h

/- (*factotum/space.state).is -/
def f71 (t0 t1 : Value) : M :=
  dr <|
  idv t0 fun t5 =>
  idv t1 fun t6 =>
  qu .i64 t6 (.int .i64 8) fun t7 =>
  nc t5 fun t8 =>
  fa 0 t8 fun t9 =>
  iaa 20 1 t9 t7 fun t10 =>
  ld t10 fun t11 =>
  idv t1 fun t12 =>
  re .i64 t12 (.int .i64 8) fun t13 =>
  shl .u8 .i64 (.int .u8 1) t13 fun t14 =>
  bws .and .u8 t11 t14 fun t15 =>
  nei .u8 t15 (.int .u8 0) fun t16 =>
  idv t16 fun t4 =>
  rt t4
theorem s71 (t0 t1 : Value) (w : World) (Q : Value → World → Prop) (h : f71 t0 t1 w Q) : Calls Tryz.prog 71 #[t0, t1] w (Rt Q) := by
  refine calls_of (l := [t0, t1]) Tryz.func71 rfl Tryz.ntmps71 (Nat.le_of_ble_eq_true rfl) ?_
  unfold f71 at h
  refine wp_seq ?_
  refine L_region ?_
  refine L_as ?_
  refine L_nil ?_
  refine E_n ?_
  refine wp_seq ?_
  refine D_region (by decide +kernel) 13 rfl ?_
  replace h := dr_e h
  refine G_p 0 rfl (by decide +kernel) (Y_mv h) ?_
  intro v h
  refine G_p 1 rfl (by decide +kernel) (Y_mv h) ?_
  intro v h
  refine G_p 2 rfl (by decide +kernel) (Y_qu h) ?_
  intro v h
  refine G_p 3 rfl (by decide +kernel) (Y_nc h) ?_
  intro v h
  refine G_p 4 rfl (by decide +kernel) (Y_fa fo110_0 h) ?_
  intro v h
  refine G_p 5 rfl (by decide +kernel) (Y_iaa ae108 h) ?_
  intro v h
  refine G_r _ 6 rfl (by decide +kernel) (R_ld sc5 h) ?_
  intro v h
  refine G_p 7 rfl (by decide +kernel) (Y_mv h) ?_
  intro v h
  refine G_p 8 rfl (by decide +kernel) (Y_re h) ?_
  intro v h
  refine G_p 9 rfl (by decide +kernel) (Y_shl h) ?_
  intro v h
  refine G_p 10 rfl (by decide +kernel) (Y_bits rfl h) ?_
  intro v h
  refine G_p 11 rfl (by decide +kernel) (Y_nei h) ?_
  intro v h
  refine G_p 12 rfl (by decide +kernel) (Y_as h) ?_
  intro v h
  refine G_done (by decide +kernel) ?_
  refine E_n ?_
  refine C_ret ?_
  show bodyPost Tryz.prog Tryz.f71 (Rt Q) .ret _ _
  exact post_tmps (ts := [4]) (.inr rfl) rfl h

/- (*factotum/space.state).turn -/
def f72 (t0 t1 : Value) : M :=
  dr <|
  idv t0 fun t4 =>
  idv t1 fun t5 =>
  qu .i64 t5 (.int .i64 8) fun t6 =>
  nc t4 fun t7 =>
  fa 0 t7 fun t8 =>
  iaa 20 1 t8 t6 fun t9 =>
  ld t9 fun t10 =>
  idv t1 fun t11 =>
  re .i64 t11 (.int .i64 8) fun t12 =>
  shl .u8 .i64 (.int .u8 1) t12 fun t13 =>
  bws .xor .u8 t10 t13 fun t14 =>
  nc t4 fun t15 =>
  fa 0 t15 fun t16 =>
  iaa 20 1 t16 t6 fun t17 =>
  st t17 t14 <|
  rt (.tuple #[])
theorem s72 (t0 t1 : Value) (w : World) (Q : Value → World → Prop) (h : f72 t0 t1 w Q) : Calls Tryz.prog 72 #[t0, t1] w (Rt Q) := by
  refine calls_of (l := [t0, t1]) Tryz.func72 rfl Tryz.ntmps72 (Nat.le_of_ble_eq_true rfl) ?_
  unfold f72 at h
  refine D_region (by decide +kernel) 15 rfl ?_
  replace h := dr_e h
  refine G_p 0 rfl (by decide +kernel) (Y_mv h) ?_
  intro v h
  refine G_p 1 rfl (by decide +kernel) (Y_mv h) ?_
  intro v h
  refine G_p 2 rfl (by decide +kernel) (Y_qu h) ?_
  intro v h
  refine G_p 3 rfl (by decide +kernel) (Y_nc h) ?_
  intro v h
  refine G_p 4 rfl (by decide +kernel) (Y_fa fo110_0 h) ?_
  intro v h
  refine G_p 5 rfl (by decide +kernel) (Y_iaa ae108 h) ?_
  intro v h
  refine G_r _ 6 rfl (by decide +kernel) (R_ld sc5 h) ?_
  intro v h
  refine G_p 7 rfl (by decide +kernel) (Y_mv h) ?_
  intro v h
  refine G_p 8 rfl (by decide +kernel) (Y_re h) ?_
  intro v h
  refine G_p 9 rfl (by decide +kernel) (Y_shl h) ?_
  intro v h
  refine G_p 10 rfl (by decide +kernel) (Y_bits rfl h) ?_
  intro v h
  refine G_p 11 rfl (by decide +kernel) (Y_nc h) ?_
  intro v h
  refine G_p 12 rfl (by decide +kernel) (Y_fa fo110_0 h) ?_
  intro v h
  refine G_p 13 rfl (by decide +kernel) (Y_iaa ae108 h) ?_
  intro v h
  refine G_e 14 rfl (by decide +kernel) (P_st on5 h ?_)
  intro w h
  refine ⟨keepF_dep [6] (by decide +kernel) rfl keepF_nil, ?_⟩
  refine G_done (by decide +kernel) ?_
  show bodyPost Tryz.prog Tryz.f72 (Rt Q) .normal _ _
  exact post_tmps (ts := []) (.inl rfl) rfl h

/- factotum/space.noughts -/
def f73 (t0 : Value) : M :=
  cc Tryz.prog 106 #[(.string ⟨#[0]⟩), t0] fun t4 =>
  rt t4
theorem s73 (t0 : Value) (w : World) (Q : Value → World → Prop) (h : f73 t0 w Q) : Calls Tryz.prog 73 #[t0] w (Rt Q) := by
  refine calls_of (l := [t0]) Tryz.func73 rfl Tryz.ntmps73 (Nat.le_of_ble_eq_true rfl) ?_
  unfold f73 at h
  refine wp_seq ?_
  refine L_region ?_
  refine L_as ?_
  refine L_nil ?_
  refine E_n ?_
  refine wp_seq ?_
  refine L_region ?_
  refine L_mv ?_
  refine L_u (N_cc Tryz.func106 rfl nn106 h) ?_
  intro v w h
  refine L_as ?_
  refine L_nil ?_
  refine E_n ?_
  refine C_ret ?_
  show bodyPost Tryz.prog Tryz.f73 (Rt Q) .ret _ _
  exact post_tmps (ts := [2]) (.inr rfl) rfl h

/- (*factotum/space.Work).Take -/
def f18_b2 (j1 : M) (self2 : Value → Value → M) (t0_1 t5 : Value) : M :=
  nc t0_1 fun t13 =>
  fa 0 t13 fun t14 =>
  ld t14 fun t15 =>
  cl (f28 t15) fun t16 =>
  lt .i64 t5 t16 fun t17 =>
  cnd t17 (
    nc t0_1 fun t21 =>
    fa 1 t21 fun t22 =>
    cl (f71 t22 t5) fun t24 =>
    nt t24 fun t25 =>
    cnd t25 (
      nc t0_1 fun t27 =>
      fa 1 t27 fun t28 =>
      cl (f72 t28 t5) fun t30 =>
      dr <|
      idv t0_1 fun t31 =>
      nc t31 fun t32 =>
      fa 1 t32 fun t33 =>
      fa 21 t33 fun t34 =>
      ld t34 fun t35 =>
      idv t5 fun t36 =>
      cl (f73 (.int .i64 256)) fun t37 =>
      kp (Kld t34 t35) <|
      smu Tryz.prog (Instr.mapUpdate 107 t35 t36 t37) <|
      rt (.tuple #[t5, (.int .i64 0)])
      ) (
      ad .i64 t5 (.int .i64 1) fun t19 =>
      self2 t0_1 t19
      )
    ) (
    j1
    )
def f18_j1 : M :=
  rt (.tuple #[(.int .i64 0), (.int .i64 8)])
def f18 (t0 : Value) : M :=
  cl (f70 t0) fun t7 =>
  nei .i64 t7 (.int .i64 0) fun t9 =>
  cnd t9 (
    rt (.tuple #[(.int .i64 0), t7])
    ) (
    jn (fun (j1 : M) =>
      lo (fun _ _ => bot) (f18_b2 j1) (fun l => l t0 (.int .i64 1))
      ) (f18_j1)
    )
theorem s18 (t0 : Value) (w : World) (Q : Value → World → Prop) (h : f18 t0 w Q) : Calls Tryz.prog 18 #[t0] w (Rt Q) := by
  refine calls_of (l := [t0]) Tryz.func18 rfl Tryz.ntmps18 (Nat.le_of_ble_eq_true rfl) ?_
  unfold f18 at h
  refine wp_seq ?_
  refine L_region ?_
  refine L_as ?_
  refine L_as ?_
  refine L_nil ?_
  refine E_n ?_
  refine wp_seq ?_
  refine wp_seq ?_
  refine L_region ?_
  refine L_mv ?_
  refine L_u (N_cl Tryz.func70 rfl nn70 (fun w Q h => s70 _ w Q h) h) ?_
  intro v w h
  refine L_as ?_
  refine L_nil ?_
  refine E_n ?_
  refine wp_seq ?_
  refine L_region ?_
  refine L_mv ?_
  refine L_u (P_nei h) ?_
  intro v w h
  refine L_nil ?_
  refine E_n ?_
  refine C_cnd h (fun h => ?_) (fun h => ?_)
  · refine wp_seq ?_
    refine L_region ?_
    refine L_mv ?_
    refine L_as ?_
    refine L_as ?_
    refine L_nil ?_
    refine E_n ?_
    refine C_ret ?_
    show bodyPost Tryz.prog Tryz.f18 (Rt Q) .ret _ _
    exact post_tmps (ts := [2, 3]) (.inr rfl) rfl h
  · refine C_skip ?_
    refine E_n ?_
    refine wp_seq ?_
    refine wp_seq ?_
    refine L_region ?_
    refine L_as ?_
    refine L_nil ?_
    refine E_n ?_
    refine C_join (fun (k : M) (ρ : Nat → Value) => k) h (fun j1 J1 h => ?_) (fun ρ w h => ?_)
    · refine C_blk ?_
      refine C_lo (fun (l : Value → Value → M) (ρ : Nat → Value) => l (ρ 0) (ρ 5)) h (fun ρ w h => h) (fun nx self2 L2 ρ w h => ?_)
      unfold f18_b2 at h
      refine wp_seq ?_
      refine wp_seq ?_
      refine L_region ?_
      refine L_mv ?_
      refine L_mv ?_
      refine L_u (P_nc h) ?_
      intro v w h
      refine L_u (P_fa fo113_0 h) ?_
      intro v w h
      refine L_u (P_ld sc29 h) ?_
      intro v w h
      refine L_u (N_cl Tryz.func28 rfl nn28 (fun w Q h => s28 _ w Q h) h) ?_
      intro v w h
      refine L_u (P_lt h) ?_
      intro v w h
      refine L_nil ?_
      refine E_n ?_
      refine C_cnd h (fun h => ?_) (fun h => ?_)
      · refine C_skip ?_
        refine E_n ?_
        refine wp_seq ?_
        refine C_blk ?_
        refine wp_seq ?_
        refine L_region ?_
        refine L_mv ?_
        refine L_u (P_nc h) ?_
        intro v w h
        refine L_u (P_fa fo113_1 h) ?_
        intro v w h
        refine L_mv ?_
        refine L_u (N_cl Tryz.func71 rfl nn71 (fun w Q h => s71 _ _ w Q h) h) ?_
        intro v w h
        refine L_u (P_nt h) ?_
        intro v w h
        refine L_nil ?_
        refine E_n ?_
        refine C_cnd h (fun h => ?_) (fun h => ?_)
        · refine wp_seq ?_
          refine L_region ?_
          refine L_mv ?_
          refine L_u (P_nc h) ?_
          intro v w h
          refine L_u (P_fa fo113_1 h) ?_
          intro v w h
          refine L_mv ?_
          refine L_u (N_cl Tryz.func72 rfl nn72 (fun w Q h => s72 _ _ w Q h) h) ?_
          intro v w h
          refine L_nil ?_
          refine E_n ?_
          refine wp_seq ?_
          refine D_region (by decide +kernel) 8 rfl ?_
          replace h := dr_e h
          refine G_p 0 rfl (by decide +kernel) (Y_mv h) ?_
          intro v h
          refine G_p 1 rfl (by decide +kernel) (Y_nc h) ?_
          intro v h
          refine G_p 2 rfl (by decide +kernel) (Y_fa fo113_1 h) ?_
          intro v h
          refine G_p 3 rfl (by decide +kernel) (Y_fa fo110_2 h) ?_
          intro v h
          refine G_r _ 4 rfl (by decide +kernel) (R_ld sc107 h) ?_
          intro v h
          refine G_p 5 rfl (by decide +kernel) (Y_mv h) ?_
          intro v h
          refine G_e 6 rfl (by decide +kernel) (N_cl Tryz.func73 rfl nn73 (fun w Q h => s73 _ w Q h) h ?_)
          intro v w h
          refine ⟨keepF_cons (kp_1 h) keepF_nil, ?_⟩
          replace h := (kp_2 h)
          refine G_e 7 rfl (by decide +kernel) (P_smu rfl h ?_)
          intro w h
          refine ⟨keepF_dep [4] (by decide +kernel) rfl keepF_nil, ?_⟩
          refine G_done (by decide +kernel) ?_
          refine E_n ?_
          refine wp_seq ?_
          refine L_region ?_
          refine L_mv ?_
          refine L_as ?_
          refine L_as ?_
          refine L_nil ?_
          refine E_n ?_
          refine C_ret ?_
          show bodyPost Tryz.prog Tryz.f18 (Rt Q) .ret _ _
          exact post_tmps (ts := [2, 3]) (.inr rfl) rfl h
        · refine C_skip ?_
          refine B_n ?_
          refine E_n ?_
          refine L_region ?_
          refine L_mv ?_
          refine L_u (P_ad h) ?_
          intro v w h
          refine L_as ?_
          refine L_nil ?_
          refine E_n ?_
          exact L2 _ _ h
      · refine C_exit ?_
        refine E_x ?_
        refine E_x ?_
        refine B_x ?_
        exact J1 _ _ h
    · unfold f18_j1 at h
      refine E_n ?_
      refine wp_seq ?_
      refine L_region ?_
      refine L_as ?_
      refine L_as ?_
      refine L_nil ?_
      refine E_n ?_
      refine C_ret ?_
      show bodyPost Tryz.prog Tryz.f18 (Rt Q) .ret _ _
      exact post_tmps (ts := [2, 3]) (.inr rfl) rfl h

/- (*factotum/space.Work).Used -/
def f19_j3 (self2 : Value → Value → Value → M) (t0_2 t3_1 t4_1 : Value) : M :=
  ad .i64 t4_1 (.int .i64 1) fun t16 =>
  self2 t0_2 t3_1 t16
def f19_b2 (j1 : Value → M) (self2 : Value → Value → Value → M) (t0_1 t3 t4 : Value) : M :=
  nc t0_1 fun t10 =>
  fa 0 t10 fun t11 =>
  ld t11 fun t12 =>
  cl (f28 t12) fun t13 =>
  lt .i64 t4 t13 fun t14 =>
  cnd t14 (
    nc t0_1 fun t18 =>
    fa 1 t18 fun t19 =>
    cl (f71 t19 t4) fun t21 =>
    jn (fun (j3 : Value → Value → Value → M) =>
      cnd t21 (
        ad .i64 t3 (.int .i64 1) fun t23 =>
        j3 t0_1 t23 t4
        ) (
        j3 t0_1 t3 t4
        )
      ) (f19_j3 self2)
    ) (
    j1 t3
    )
def f19_j1 (t3_2 : Value) : M :=
  rt t3_2
def f19 (t0 : Value) : M :=
  cl (f70 t0) fun t6 =>
  nei .i64 t6 (.int .i64 0) fun t7 =>
  cnd t7 (
    rt (.int .i64 0)
    ) (
    jn (fun (j1 : Value → M) =>
      lo (fun _ _ _ => bot) (f19_b2 j1) (fun l => l t0 (.int .i64 1) (.int .i64 1))
      ) (f19_j1)
    )
theorem s19 (t0 : Value) (w : World) (Q : Value → World → Prop) (h : f19 t0 w Q) : Calls Tryz.prog 19 #[t0] w (Rt Q) := by
  refine calls_of (l := [t0]) Tryz.func19 rfl Tryz.ntmps19 (Nat.le_of_ble_eq_true rfl) ?_
  unfold f19 at h
  refine wp_seq ?_
  refine L_region ?_
  refine L_as ?_
  refine L_nil ?_
  refine E_n ?_
  refine wp_seq ?_
  refine wp_seq ?_
  refine L_region ?_
  refine L_mv ?_
  refine L_u (N_cl Tryz.func70 rfl nn70 (fun w Q h => s70 _ w Q h) h) ?_
  intro v w h
  refine L_u (P_nei h) ?_
  intro v w h
  refine L_nil ?_
  refine E_n ?_
  refine C_cnd h (fun h => ?_) (fun h => ?_)
  · refine wp_seq ?_
    refine L_region ?_
    refine L_as ?_
    refine L_nil ?_
    refine E_n ?_
    refine C_ret ?_
    show bodyPost Tryz.prog Tryz.f19 (Rt Q) .ret _ _
    exact post_tmps (ts := [2]) (.inr rfl) rfl h
  · refine C_skip ?_
    refine E_n ?_
    refine wp_seq ?_
    refine L_region ?_
    refine L_as ?_
    refine L_nil ?_
    refine E_n ?_
    refine wp_seq ?_
    refine wp_seq ?_
    refine L_region ?_
    refine L_as ?_
    refine L_nil ?_
    refine E_n ?_
    refine C_join (fun (k : Value → M) (ρ : Nat → Value) => k (ρ 3)) h (fun j1 J1 h => ?_) (fun ρ w h => ?_)
    · refine C_blk ?_
      refine C_lo (fun (l : Value → Value → Value → M) (ρ : Nat → Value) => l (ρ 0) (ρ 3) (ρ 4)) h (fun ρ w h => h) (fun nx self2 L2 ρ w h => ?_)
      unfold f19_b2 at h
      refine wp_seq ?_
      refine wp_seq ?_
      refine L_region ?_
      refine L_mv ?_
      refine L_mv ?_
      refine L_u (P_nc h) ?_
      intro v w h
      refine L_u (P_fa fo113_0 h) ?_
      intro v w h
      refine L_u (P_ld sc29 h) ?_
      intro v w h
      refine L_u (N_cl Tryz.func28 rfl nn28 (fun w Q h => s28 _ w Q h) h) ?_
      intro v w h
      refine L_u (P_lt h) ?_
      intro v w h
      refine L_nil ?_
      refine E_n ?_
      refine C_cnd h (fun h => ?_) (fun h => ?_)
      · refine C_skip ?_
        refine E_n ?_
        refine wp_seq ?_
        refine C_blk ?_
        refine wp_seq ?_
        refine L_region ?_
        refine L_mv ?_
        refine L_u (P_nc h) ?_
        intro v w h
        refine L_u (P_fa fo113_1 h) ?_
        intro v w h
        refine L_mv ?_
        refine L_u (N_cl Tryz.func71 rfl nn71 (fun w Q h => s71 _ _ w Q h) h) ?_
        intro v w h
        refine L_nil ?_
        refine E_n ?_
        refine C_join (fun (k : Value → Value → Value → M) (ρ : Nat → Value) => k (ρ 0) (ρ 3) (ρ 4)) h (fun j3 J3 h => ?_) (fun ρ w h => ?_)
        · refine C_cnd h (fun h => ?_) (fun h => ?_)
          · refine L_region ?_
            refine L_mv ?_
            refine L_u (P_ad h) ?_
            intro v w h
            refine L_as ?_
            refine L_nil ?_
            exact J3 _ _ h
          · refine C_skip ?_
            exact J3 _ _ h
        · unfold f19_j3 at h
          refine B_n ?_
          refine E_n ?_
          refine L_region ?_
          refine L_mv ?_
          refine L_u (P_ad h) ?_
          intro v w h
          refine L_as ?_
          refine L_nil ?_
          refine E_n ?_
          exact L2 _ _ h
      · refine C_exit ?_
        refine E_x ?_
        refine E_x ?_
        refine B_x ?_
        exact J1 _ _ h
    · unfold f19_j1 at h
      refine E_n ?_
      refine wp_seq ?_
      refine L_region ?_
      refine L_mv ?_
      refine L_as ?_
      refine L_nil ?_
      refine E_n ?_
      refine C_ret ?_
      show bodyPost Tryz.prog Tryz.f19 (Rt Q) .ret _ _
      exact post_tmps (ts := [2]) (.inr rfl) rfl h

/- (*factotum/space.Work).there -/
def f74 (t0 t1 : Value) : M :=
  cl (f70 t0) fun t7 =>
  nei .i64 t7 (.int .i64 0) fun t9 =>
  cnd t9 (
    rt t7
    ) (
    le .i64 t1 (.int .i64 0) fun t12 =>
    gd t12 false (idv t1) fun t14 =>
    gd t12 false (idv t0) fun t15 =>
    gd t12 false (nc t15) fun t16 =>
    gd t12 false (fa 0 t16) fun t17 =>
    gd t12 false (ld t17) fun t18 =>
    gd t12 false (cl (f28 t18)) fun t19 =>
    gd t12 false (ge .i64 t14 t19) fun t20 =>
    pk t12 (.bool true) t20 fun t21 =>
    gd t21 false (idv t0) fun t23 =>
    gd t21 false (nc t23) fun t24 =>
    gd t21 false (fa 1 t24) fun t25 =>
    gd t21 false (idv t1) fun t26 =>
    gd t21 false (cl (f71 t25 t26)) fun t27 =>
    gd t21 false (nt t27) fun t28 =>
    pk t21 (.bool true) t28 fun t29 =>
    cnd t29 (
      rt (.int .i64 7)
      ) (
      rt (.int .i64 0)
      )
    )
theorem s74 (t0 t1 : Value) (w : World) (Q : Value → World → Prop) (h : f74 t0 t1 w Q) : Calls Tryz.prog 74 #[t0, t1] w (Rt Q) := by
  refine calls_of (l := [t0, t1]) Tryz.func74 rfl Tryz.ntmps74 (Nat.le_of_ble_eq_true rfl) ?_
  unfold f74 at h
  refine wp_seq ?_
  refine L_region ?_
  refine L_as ?_
  refine L_nil ?_
  refine E_n ?_
  refine wp_seq ?_
  refine wp_seq ?_
  refine L_region ?_
  refine L_mv ?_
  refine L_u (N_cl Tryz.func70 rfl nn70 (fun w Q h => s70 _ w Q h) h) ?_
  intro v w h
  refine L_as ?_
  refine L_nil ?_
  refine E_n ?_
  refine wp_seq ?_
  refine L_region ?_
  refine L_mv ?_
  refine L_u (P_nei h) ?_
  intro v w h
  refine L_nil ?_
  refine E_n ?_
  refine C_cnd h (fun h => ?_) (fun h => ?_)
  · refine wp_seq ?_
    refine L_region ?_
    refine L_mv ?_
    refine L_as ?_
    refine L_nil ?_
    refine E_n ?_
    refine C_ret ?_
    show bodyPost Tryz.prog Tryz.f74 (Rt Q) .ret _ _
    exact post_tmps (ts := [4]) (.inr rfl) rfl h
  · refine C_skip ?_
    refine E_n ?_
    refine wp_seq ?_
    refine wp_seq ?_
    refine L_region ?_
    refine L_mv ?_
    refine L_u (P_le h) ?_
    intro v w h
    refine L_mv ?_
    refine L_g (t := 13) h rfl rfl (fun c h => P_mv h c) ?_
    intro v w h
    refine L_g (t := 13) h rfl rfl (fun c h => P_mv h c) ?_
    intro v w h
    refine L_g (t := 13) h rfl rfl (fun c h => P_nc h c) ?_
    intro v w h
    refine L_g (t := 13) h rfl rfl (fun c h => P_fa fo113_0 h c) ?_
    intro v w h
    refine L_g (t := 13) h rfl rfl (fun c h => P_ld sc29 h c) ?_
    intro v w h
    refine L_g (t := 13) h rfl rfl (fun c h => N_cl Tryz.func28 rfl nn28 (fun w Q h => s28 _ w Q h) h c) ?_
    intro v w h
    refine L_g (t := 13) h rfl rfl (fun c h => P_ge h c) ?_
    intro v w h
    refine L_u (P_pk h) ?_
    intro v w h
    refine L_mv ?_
    refine L_g (t := 22) h rfl rfl (fun c h => P_mv h c) ?_
    intro v w h
    refine L_g (t := 22) h rfl rfl (fun c h => P_nc h c) ?_
    intro v w h
    refine L_g (t := 22) h rfl rfl (fun c h => P_fa fo113_1 h c) ?_
    intro v w h
    refine L_g (t := 22) h rfl rfl (fun c h => P_mv h c) ?_
    intro v w h
    refine L_g (t := 22) h rfl rfl (fun c h => N_cl Tryz.func71 rfl nn71 (fun w Q h => s71 _ _ w Q h) h c) ?_
    intro v w h
    refine L_g (t := 22) h rfl rfl (fun c h => P_nt h c) ?_
    intro v w h
    refine L_u (P_pk h) ?_
    intro v w h
    refine L_nil ?_
    refine E_n ?_
    refine C_cnd h (fun h => ?_) (fun h => ?_)
    · refine wp_seq ?_
      refine L_region ?_
      refine L_as ?_
      refine L_nil ?_
      refine E_n ?_
      refine C_ret ?_
      show bodyPost Tryz.prog Tryz.f74 (Rt Q) .ret _ _
      exact post_tmps (ts := [4]) (.inr rfl) rfl h
    · refine C_skip ?_
      refine E_n ?_
      refine wp_seq ?_
      refine L_region ?_
      refine L_as ?_
      refine L_nil ?_
      refine E_n ?_
      refine C_ret ?_
      show bodyPost Tryz.prog Tryz.f74 (Rt Q) .ret _ _
      exact post_tmps (ts := [4]) (.inr rfl) rfl h

/- (*factotum/space.Work).Drop -/
def f20_j1 (t5 : Value) : M :=
  rt t5
def f20 (t0 t1 : Value) : M :=
  cl (f74 t0 t1) fun t8 =>
  eqi .i64 t8 (.int .i64 0) fun t10 =>
  jn (fun (j1 : Value → M) =>
    cnd t10 (
      nc t0 fun t12 =>
      fa 1 t12 fun t13 =>
      cl (f72 t13 t1) fun t15 =>
      j1 t8
      ) (
      j1 t8
      )
    ) (f20_j1)
theorem s20 (t0 t1 : Value) (w : World) (Q : Value → World → Prop) (h : f20 t0 t1 w Q) : Calls Tryz.prog 20 #[t0, t1] w (Rt Q) := by
  refine calls_of (l := [t0, t1]) Tryz.func20 rfl Tryz.ntmps20 (Nat.le_of_ble_eq_true rfl) ?_
  unfold f20 at h
  refine wp_seq ?_
  refine L_region ?_
  refine L_as ?_
  refine L_nil ?_
  refine E_n ?_
  refine wp_seq ?_
  refine L_region ?_
  refine L_mv ?_
  refine L_mv ?_
  refine L_u (N_cl Tryz.func74 rfl nn74 (fun w Q h => s74 _ _ w Q h) h) ?_
  intro v w h
  refine L_as ?_
  refine L_nil ?_
  refine E_n ?_
  refine wp_seq ?_
  refine wp_seq ?_
  refine L_region ?_
  refine L_mv ?_
  refine L_u (P_eqi h) ?_
  intro v w h
  refine L_nil ?_
  refine E_n ?_
  refine C_join (fun (k : Value → M) (ρ : Nat → Value) => k (ρ 5)) h (fun j1 J1 h => ?_) (fun ρ w h => ?_)
  · refine C_cnd h (fun h => ?_) (fun h => ?_)
    · refine L_region ?_
      refine L_mv ?_
      refine L_u (P_nc h) ?_
      intro v w h
      refine L_u (P_fa fo113_1 h) ?_
      intro v w h
      refine L_mv ?_
      refine L_u (N_cl Tryz.func72 rfl nn72 (fun w Q h => s72 _ _ w Q h) h) ?_
      intro v w h
      refine L_nil ?_
      exact J1 _ _ h
    · refine C_skip ?_
      exact J1 _ _ h
  · unfold f20_j1 at h
    refine E_n ?_
    refine wp_seq ?_
    refine L_region ?_
    refine L_mv ?_
    refine L_as ?_
    refine L_nil ?_
    refine E_n ?_
    refine C_ret ?_
    show bodyPost Tryz.prog Tryz.f20 (Rt Q) .ret _ _
    exact post_tmps (ts := [4]) (.inr rfl) rfl h

/- factotum/factotumlaw08.lives -/
def f14 : M :=
  cl (f17 (.int .i64 4)) fun t11 =>
  cl (f16 t11) fun t12 =>
  ex 0 t12 fun t13 =>
  ex 1 t12 fun t14 =>
  nei .i64 t14 (.int .i64 0) fun t16 =>
  gd t16 false (idv t13) fun t18 =>
  gd t16 false (smr Tryz.prog (do eqGuard .eql 25 (.tmp 18) (.const (.pointer none)) t18 (.pointer none); binOp .eql 25 t18 (.pointer none))) fun t19 =>
  pk t16 (.bool true) t19 fun t20 =>
  cnd t20 (
    rt (.bool false)
    ) (
    cl (f18 t13) fun t23 =>
    ex 0 t23 fun t24 =>
    ex 1 t23 fun t25 =>
    cl (f18 t13) fun t28 =>
    ex 0 t28 fun t29 =>
    ex 1 t28 fun t30 =>
    cl (f20 t13 (.int .i64 1)) fun t32 =>
    cl (f18 t13) fun t35 =>
    ex 0 t35 fun t36 =>
    ex 1 t35 fun t37 =>
    eqi .i64 t25 (.int .i64 0) fun t39 =>
    gd t39 true (idv t30) fun t41 =>
    gd t39 true (eqi .i64 t41 (.int .i64 0)) fun t42 =>
    pk t39 t42 (.bool false) fun t43 =>
    gd t43 true (idv t32) fun t45 =>
    gd t43 true (eqi .i64 t45 (.int .i64 0)) fun t46 =>
    pk t43 t46 (.bool false) fun t47 =>
    gd t47 true (idv t37) fun t49 =>
    gd t47 true (eqi .i64 t49 (.int .i64 0)) fun t50 =>
    pk t47 t50 (.bool false) fun t51 =>
    gd t51 true (idv t24) fun t53 =>
    gd t51 true (eqi .i64 t53 (.int .i64 1)) fun t54 =>
    pk t51 t54 (.bool false) fun t55 =>
    gd t55 true (idv t29) fun t57 =>
    gd t55 true (eqi .i64 t57 (.int .i64 2)) fun t58 =>
    pk t55 t58 (.bool false) fun t59 =>
    gd t59 true (idv t36) fun t61 =>
    gd t59 true (eqi .i64 t61 (.int .i64 1)) fun t62 =>
    pk t59 t62 (.bool false) fun t63 =>
    gd t63 true (idv t13) fun t65 =>
    gd t63 true (cl (f19 t65)) fun t66 =>
    gd t63 true (eqi .i64 t66 (.int .i64 3)) fun t67 =>
    pk t63 t67 (.bool false) fun t68 =>
    rt t68
    )
theorem s14 (w : World) (Q : Value → World → Prop) (h : f14 w Q) : Calls Tryz.prog 14 #[] w (Rt Q) := by
  refine calls_of (l := []) Tryz.func14 rfl Tryz.ntmps14 (Nat.le_of_ble_eq_true rfl) ?_
  unfold f14 at h
  refine wp_seq ?_
  refine L_region ?_
  refine L_as ?_
  refine L_nil ?_
  refine E_n ?_
  refine wp_seq ?_
  refine L_region ?_
  refine L_u (N_cl Tryz.func17 rfl nn17 (fun w Q h => s17 _ w Q h) h) ?_
  intro v w h
  refine L_u (N_cl Tryz.func16 rfl nn16 (fun w Q h => s16 _ w Q h) h) ?_
  intro v w h
  refine L_mv ?_
  refine L_u (P_ex h) ?_
  intro v w h
  refine L_u (P_ex h) ?_
  intro v w h
  refine L_as ?_
  refine L_as ?_
  refine L_nil ?_
  refine E_n ?_
  refine wp_seq ?_
  refine wp_seq ?_
  refine L_region ?_
  refine L_mv ?_
  refine L_u (P_nei h) ?_
  intro v w h
  refine L_mv ?_
  refine L_g (t := 17) h rfl rfl (fun c h => P_mv h c) ?_
  intro v w h
  refine L_g (t := 17) h rfl rfl (fun c h => P_smr rfl h c) ?_
  intro v w h
  refine L_u (P_pk h) ?_
  intro v w h
  refine L_nil ?_
  refine E_n ?_
  refine C_cnd h (fun h => ?_) (fun h => ?_)
  · refine wp_seq ?_
    refine L_region ?_
    refine L_as ?_
    refine L_nil ?_
    refine E_n ?_
    refine C_ret ?_
    show bodyPost Tryz.prog Tryz.f14 (Rt Q) .ret _ _
    exact post_tmps (ts := [0]) (.inr rfl) rfl h
  · refine C_skip ?_
    refine E_n ?_
    refine wp_seq ?_
    refine L_region ?_
    refine L_mv ?_
    refine L_u (N_cl Tryz.func18 rfl nn18 (fun w Q h => s18 _ w Q h) h) ?_
    intro v w h
    refine L_mv ?_
    refine L_u (P_ex h) ?_
    intro v w h
    refine L_u (P_ex h) ?_
    intro v w h
    refine L_as ?_
    refine L_as ?_
    refine L_nil ?_
    refine E_n ?_
    refine wp_seq ?_
    refine L_region ?_
    refine L_mv ?_
    refine L_u (N_cl Tryz.func18 rfl nn18 (fun w Q h => s18 _ w Q h) h) ?_
    intro v w h
    refine L_mv ?_
    refine L_u (P_ex h) ?_
    intro v w h
    refine L_u (P_ex h) ?_
    intro v w h
    refine L_as ?_
    refine L_as ?_
    refine L_nil ?_
    refine E_n ?_
    refine wp_seq ?_
    refine L_region ?_
    refine L_mv ?_
    refine L_u (N_cl Tryz.func20 rfl nn20 (fun w Q h => s20 _ _ w Q h) h) ?_
    intro v w h
    refine L_as ?_
    refine L_nil ?_
    refine E_n ?_
    refine wp_seq ?_
    refine L_region ?_
    refine L_mv ?_
    refine L_u (N_cl Tryz.func18 rfl nn18 (fun w Q h => s18 _ w Q h) h) ?_
    intro v w h
    refine L_mv ?_
    refine L_u (P_ex h) ?_
    intro v w h
    refine L_u (P_ex h) ?_
    intro v w h
    refine L_as ?_
    refine L_as ?_
    refine L_nil ?_
    refine E_n ?_
    refine wp_seq ?_
    refine L_region ?_
    refine L_mv ?_
    refine L_u (P_eqi h) ?_
    intro v w h
    refine L_mv ?_
    refine L_g (t := 40) h rfl rfl (fun c h => P_mv h c) ?_
    intro v w h
    refine L_g (t := 40) h rfl rfl (fun c h => P_eqi h c) ?_
    intro v w h
    refine L_u (P_pk h) ?_
    intro v w h
    refine L_mv ?_
    refine L_g (t := 44) h rfl rfl (fun c h => P_mv h c) ?_
    intro v w h
    refine L_g (t := 44) h rfl rfl (fun c h => P_eqi h c) ?_
    intro v w h
    refine L_u (P_pk h) ?_
    intro v w h
    refine L_mv ?_
    refine L_g (t := 48) h rfl rfl (fun c h => P_mv h c) ?_
    intro v w h
    refine L_g (t := 48) h rfl rfl (fun c h => P_eqi h c) ?_
    intro v w h
    refine L_u (P_pk h) ?_
    intro v w h
    refine L_mv ?_
    refine L_g (t := 52) h rfl rfl (fun c h => P_mv h c) ?_
    intro v w h
    refine L_g (t := 52) h rfl rfl (fun c h => P_eqi h c) ?_
    intro v w h
    refine L_u (P_pk h) ?_
    intro v w h
    refine L_mv ?_
    refine L_g (t := 56) h rfl rfl (fun c h => P_mv h c) ?_
    intro v w h
    refine L_g (t := 56) h rfl rfl (fun c h => P_eqi h c) ?_
    intro v w h
    refine L_u (P_pk h) ?_
    intro v w h
    refine L_mv ?_
    refine L_g (t := 60) h rfl rfl (fun c h => P_mv h c) ?_
    intro v w h
    refine L_g (t := 60) h rfl rfl (fun c h => P_eqi h c) ?_
    intro v w h
    refine L_u (P_pk h) ?_
    intro v w h
    refine L_mv ?_
    refine L_g (t := 64) h rfl rfl (fun c h => P_mv h c) ?_
    intro v w h
    refine L_g (t := 64) h rfl rfl (fun c h => N_cl Tryz.func19 rfl nn19 (fun w Q h => s19 _ w Q h) h c) ?_
    intro v w h
    refine L_g (t := 64) h rfl rfl (fun c h => P_eqi h c) ?_
    intro v w h
    refine L_u (P_pk h) ?_
    intro v w h
    refine L_as ?_
    refine L_nil ?_
    refine E_n ?_
    refine C_ret ?_
    show bodyPost Tryz.prog Tryz.f14 (Rt Q) .ret _ _
    exact post_tmps (ts := [0]) (.inr rfl) rfl h

/- factotum/factotumlaw08.pages -/
def f15 (t0 : Value) : M :=
  cv .u64 t0 fun t4 =>
  re .u64 t4 (.int .u64 40) fun t5 =>
  cv .i64 t5 fun t6 =>
  ad .i64 (.int .i64 1) t6 fun t7 =>
  rt t7
theorem s15 (t0 : Value) (w : World) (Q : Value → World → Prop) (h : f15 t0 w Q) : Calls Tryz.prog 15 #[t0] w (Rt Q) := by
  refine calls_of (l := [t0]) Tryz.func15 rfl Tryz.ntmps15 (Nat.le_of_ble_eq_true rfl) ?_
  unfold f15 at h
  refine wp_seq ?_
  refine L_region ?_
  refine L_as ?_
  refine L_nil ?_
  refine E_n ?_
  refine wp_seq ?_
  refine L_region ?_
  refine L_mv ?_
  refine L_u (P_cv ai3 in37 h) ?_
  intro v w h
  refine L_u (P_re h) ?_
  intro v w h
  refine L_u (P_cv ai37 in3 h) ?_
  intro v w h
  refine L_u (P_ad h) ?_
  intro v w h
  refine L_as ?_
  refine L_nil ?_
  refine E_n ?_
  refine C_ret ?_
  show bodyPost Tryz.prog Tryz.f15 (Rt Q) .ret _ _
  exact post_tmps (ts := [2]) (.inr rfl) rfl h

/- factotum/factotumlaw08.SpaceTakes -/
def f3_b2 (j1 : Value → Value → Value → M) (self2 : Value → Value → Value → Value → M) (t0_1 t1_1 t5 t7 : Value) : M :=
  lt .i64 t7 t0_1 fun t31 =>
  cnd t31 (
    cl (f18 t5) fun t36 =>
    ex 0 t36 fun t37 =>
    ex 1 t36 fun t38 =>
    nei .i64 t38 (.int .i64 0) fun t40 =>
    gd t40 false (idv t37) fun t42 =>
    gd t40 false (idv t7) fun t43 =>
    gd t40 false (nei .i64 t42 t43) fun t44 =>
    pk t40 (.bool true) t44 fun t45 =>
    cnd t45 (
      rt (.bool false)
      ) (
      ad .i64 t7 (.int .i64 1) fun t33 =>
      self2 t0_1 t1_1 t5 t33
      )
    ) (
    j1 t0_1 t1_1 t5
    )
def f3_b4 (j3 : Value → Value → M) (self4 : Value → Value → Value → Value → M) (t0_3 t1_3 t5_2 t12 : Value) : M :=
  lnl t1_3 fun t61 =>
  lt .i64 t12 t61 fun t62 =>
  gd t62 true (idv t12) fun t64 =>
  gd t62 true (lt .i64 t64 (.int .i64 100)) fun t65 =>
  pk t62 t65 (.bool false) fun t66 =>
  cnd t66 (
    ia 1 t1_3 t12 fun t72 =>
    ld t72 fun t73 =>
    cl (f20 t5_2 t73) fun t74 =>
    cl (f18 t5_2) fun t77 =>
    ex 0 t77 fun t78 =>
    ex 1 t77 fun t79 =>
    ia 1 t1_3 t12 fun t82 =>
    ld t82 fun t83 =>
    gt .i64 t83 (.int .i64 0) fun t84 =>
    gd t84 true (idv t1_3) fun t86 =>
    gd t84 true (idv t12) fun t87 =>
    gd t84 true (ia 1 t86 t87) fun t88 =>
    gd t84 true (ld t88) fun t89 =>
    gd t84 true (idv t0_3) fun t90 =>
    gd t84 true (lt .i64 t89 t90) fun t91 =>
    pk t84 t91 (.bool false) fun t92 =>
    gd t92 true (idv t74) fun t95 =>
    gd t92 true (nei .i64 t95 (.int .i64 0)) fun t96 =>
    gd t92 true (idv t96) fun t97 =>
    gd t97 false (idv t79) fun t98 =>
    gd t97 false (nei .i64 t98 (.int .i64 0)) fun t99 =>
    gd t92 true (pk t97 (.bool true) t99) fun t100 =>
    gd t92 true (idv t100) fun t101 =>
    gd t101 false (idv t78) fun t102 =>
    gd t101 false (idv t1_3) fun t103 =>
    gd t101 false (idv t12) fun t104 =>
    gd t101 false (ia 1 t103 t104) fun t105 =>
    gd t101 false (ld t105) fun t106 =>
    gd t101 false (nei .i64 t102 t106) fun t107 =>
    gd t92 true (pk t101 (.bool true) t107) fun t108 =>
    pk t92 t108 (.bool false) fun t109 =>
    gd t109 false (idv t92) fun t111 =>
    gd t109 false (nt t111) fun t112 =>
    gd t109 false (idv t112) fun t113 =>
    gd t113 true (idv t74) fun t114 =>
    gd t113 true (nei .i64 t114 (.int .i64 7)) fun t115 =>
    gd t113 true (idv t115) fun t116 =>
    gd t116 false (idv t79) fun t117 =>
    gd t116 false (nei .i64 t117 (.int .i64 8)) fun t118 =>
    gd t113 true (pk t116 (.bool true) t118) fun t119 =>
    gd t109 false (pk t113 t119 (.bool false)) fun t120 =>
    pk t109 (.bool true) t120 fun t121 =>
    cnd t121 (
      rt (.bool false)
      ) (
      ad .i64 t12 (.int .i64 1) fun t68 =>
      self4 t0_3 t1_3 t5_2 t68
      )
    ) (
    j3 t0_3 t5_2
    )
def f3_j3 (t0_4 t5_3 : Value) : M :=
  cl (f19 t5_3) fun t123 =>
  eqi .i64 t123 t0_4 fun t125 =>
  rt t125
def f3_j1 (t0_2 t1_2 t5_1 : Value) : M :=
  cl (f18 t5_1) fun t48 =>
  ex 0 t48 fun t49 =>
  ex 1 t48 fun t50 =>
  nei .i64 t50 (.int .i64 8) fun t52 =>
  gd t52 false (idv t5_1) fun t54 =>
  gd t52 false (cl (f19 t54)) fun t55 =>
  gd t52 false (idv t0_2) fun t56 =>
  gd t52 false (nei .i64 t55 t56) fun t57 =>
  pk t52 (.bool true) t57 fun t58 =>
  cnd t58 (
    rt (.bool false)
    ) (
    jn (fun (j3 : Value → Value → M) =>
      lo (fun _ _ _ _ => bot) (f3_b4 j3) (fun l => l t0_2 t1_2 t5_1 (.int .i64 0))
      ) (f3_j3)
    )
def f3 (t0 t1 : Value) : M :=
  cl (f14) fun t17 =>
  nt t17 fun t18 =>
  cnd t18 (
    rt (.bool false)
    ) (
    cl (f15 t0) fun t20 =>
    cl (f17 t20) fun t23 =>
    cl (f16 t23) fun t24 =>
    ex 0 t24 fun t25 =>
    ex 1 t24 fun t26 =>
    nei .i64 t26 (.int .i64 0) fun t28 =>
    cnd t28 (
      rt (.bool false)
      ) (
      jn (fun (j1 : Value → Value → Value → M) =>
        lo (fun _ _ _ _ => bot) (f3_b2 j1) (fun l => l t20 t1 t25 (.int .i64 1))
        ) (f3_j1)
      )
    )
theorem s3 (t0 t1 : Value) (w : World) (Q : Value → World → Prop) (h : f3 t0 t1 w Q) : Calls Tryz.prog 3 #[t0, t1] w (Rt Q) := by
  refine calls_of (l := [t0, t1]) Tryz.func3 rfl Tryz.ntmps3 (Nat.le_of_ble_eq_true rfl) ?_
  unfold f3 at h
  refine wp_seq ?_
  refine L_region ?_
  refine L_as ?_
  refine L_nil ?_
  refine E_n ?_
  refine wp_seq ?_
  refine wp_seq ?_
  refine L_region ?_
  refine L_u (N_cl Tryz.func14 rfl nn14 (fun w Q h => s14 w Q h) h) ?_
  intro v w h
  refine L_u (P_nt h) ?_
  intro v w h
  refine L_nil ?_
  refine E_n ?_
  refine C_cnd h (fun h => ?_) (fun h => ?_)
  · refine wp_seq ?_
    refine L_region ?_
    refine L_as ?_
    refine L_nil ?_
    refine E_n ?_
    refine C_ret ?_
    show bodyPost Tryz.prog Tryz.f3 (Rt Q) .ret _ _
    exact post_tmps (ts := [4]) (.inr rfl) rfl h
  · refine C_skip ?_
    refine E_n ?_
    refine wp_seq ?_
    refine L_region ?_
    refine L_mv ?_
    refine L_u (N_cl Tryz.func15 rfl nn15 (fun w Q h => s15 _ w Q h) h) ?_
    intro v w h
    refine L_as ?_
    refine L_nil ?_
    refine E_n ?_
    refine wp_seq ?_
    refine L_region ?_
    refine L_mv ?_
    refine L_u (N_cl Tryz.func17 rfl nn17 (fun w Q h => s17 _ w Q h) h) ?_
    intro v w h
    refine L_u (N_cl Tryz.func16 rfl nn16 (fun w Q h => s16 _ w Q h) h) ?_
    intro v w h
    refine L_mv ?_
    refine L_u (P_ex h) ?_
    intro v w h
    refine L_u (P_ex h) ?_
    intro v w h
    refine L_as ?_
    refine L_as ?_
    refine L_nil ?_
    refine E_n ?_
    refine wp_seq ?_
    refine wp_seq ?_
    refine L_region ?_
    refine L_mv ?_
    refine L_u (P_nei h) ?_
    intro v w h
    refine L_nil ?_
    refine E_n ?_
    refine C_cnd h (fun h => ?_) (fun h => ?_)
    · refine wp_seq ?_
      refine L_region ?_
      refine L_as ?_
      refine L_nil ?_
      refine E_n ?_
      refine C_ret ?_
      show bodyPost Tryz.prog Tryz.f3 (Rt Q) .ret _ _
      exact post_tmps (ts := [4]) (.inr rfl) rfl h
    · refine C_skip ?_
      refine E_n ?_
      refine wp_seq ?_
      refine wp_seq ?_
      refine L_region ?_
      refine L_as ?_
      refine L_nil ?_
      refine E_n ?_
      refine C_join (fun (k : Value → Value → Value → M) (ρ : Nat → Value) => k (ρ 0) (ρ 1) (ρ 5)) h (fun j1 J1 h => ?_) (fun ρ w h => ?_)
      · refine C_blk ?_
        refine C_lo (fun (l : Value → Value → Value → Value → M) (ρ : Nat → Value) => l (ρ 0) (ρ 1) (ρ 5) (ρ 7)) h (fun ρ w h => h) (fun nx self2 L2 ρ w h => ?_)
        unfold f3_b2 at h
        refine wp_seq ?_
        refine wp_seq ?_
        refine L_region ?_
        refine L_mv ?_
        refine L_mv ?_
        refine L_u (P_lt h) ?_
        intro v w h
        refine L_nil ?_
        refine E_n ?_
        refine C_cnd h (fun h => ?_) (fun h => ?_)
        · refine C_skip ?_
          refine E_n ?_
          refine wp_seq ?_
          refine C_blk ?_
          refine wp_seq ?_
          refine L_region ?_
          refine L_mv ?_
          refine L_u (N_cl Tryz.func18 rfl nn18 (fun w Q h => s18 _ w Q h) h) ?_
          intro v w h
          refine L_mv ?_
          refine L_u (P_ex h) ?_
          intro v w h
          refine L_u (P_ex h) ?_
          intro v w h
          refine L_as ?_
          refine L_as ?_
          refine L_nil ?_
          refine E_n ?_
          refine wp_seq ?_
          refine L_region ?_
          refine L_mv ?_
          refine L_u (P_nei h) ?_
          intro v w h
          refine L_mv ?_
          refine L_g (t := 41) h rfl rfl (fun c h => P_mv h c) ?_
          intro v w h
          refine L_g (t := 41) h rfl rfl (fun c h => P_mv h c) ?_
          intro v w h
          refine L_g (t := 41) h rfl rfl (fun c h => P_nei h c) ?_
          intro v w h
          refine L_u (P_pk h) ?_
          intro v w h
          refine L_nil ?_
          refine E_n ?_
          refine C_cnd h (fun h => ?_) (fun h => ?_)
          · refine wp_seq ?_
            refine L_region ?_
            refine L_as ?_
            refine L_nil ?_
            refine E_n ?_
            refine C_ret ?_
            show bodyPost Tryz.prog Tryz.f3 (Rt Q) .ret _ _
            exact post_tmps (ts := [4]) (.inr rfl) rfl h
          · refine C_skip ?_
            refine B_n ?_
            refine E_n ?_
            refine L_region ?_
            refine L_mv ?_
            refine L_u (P_ad h) ?_
            intro v w h
            refine L_as ?_
            refine L_nil ?_
            refine E_n ?_
            exact L2 _ _ h
        · refine C_exit ?_
          refine E_x ?_
          refine E_x ?_
          refine B_x ?_
          exact J1 _ _ h
      · unfold f3_j1 at h
        refine E_n ?_
        refine wp_seq ?_
        refine L_region ?_
        refine L_mv ?_
        refine L_u (N_cl Tryz.func18 rfl nn18 (fun w Q h => s18 _ w Q h) h) ?_
        intro v w h
        refine L_mv ?_
        refine L_u (P_ex h) ?_
        intro v w h
        refine L_u (P_ex h) ?_
        intro v w h
        refine L_as ?_
        refine L_as ?_
        refine L_nil ?_
        refine E_n ?_
        refine wp_seq ?_
        refine wp_seq ?_
        refine L_region ?_
        refine L_mv ?_
        refine L_u (P_nei h) ?_
        intro v w h
        refine L_mv ?_
        refine L_g (t := 53) h rfl rfl (fun c h => P_mv h c) ?_
        intro v w h
        refine L_g (t := 53) h rfl rfl (fun c h => N_cl Tryz.func19 rfl nn19 (fun w Q h => s19 _ w Q h) h c) ?_
        intro v w h
        refine L_g (t := 53) h rfl rfl (fun c h => P_mv h c) ?_
        intro v w h
        refine L_g (t := 53) h rfl rfl (fun c h => P_nei h c) ?_
        intro v w h
        refine L_u (P_pk h) ?_
        intro v w h
        refine L_nil ?_
        refine E_n ?_
        refine C_cnd h (fun h => ?_) (fun h => ?_)
        · refine wp_seq ?_
          refine L_region ?_
          refine L_as ?_
          refine L_nil ?_
          refine E_n ?_
          refine C_ret ?_
          show bodyPost Tryz.prog Tryz.f3 (Rt Q) .ret _ _
          exact post_tmps (ts := [4]) (.inr rfl) rfl h
        · refine C_skip ?_
          refine E_n ?_
          refine wp_seq ?_
          refine wp_seq ?_
          refine L_region ?_
          refine L_as ?_
          refine L_nil ?_
          refine E_n ?_
          refine C_join (fun (k : Value → Value → M) (ρ : Nat → Value) => k (ρ 0) (ρ 5)) h (fun j3 J3 h => ?_) (fun ρ w h => ?_)
          · refine C_blk ?_
            refine C_lo (fun (l : Value → Value → Value → Value → M) (ρ : Nat → Value) => l (ρ 0) (ρ 1) (ρ 5) (ρ 12)) h (fun ρ w h => h) (fun nx self4 L4 ρ w h => ?_)
            unfold f3_b4 at h
            refine wp_seq ?_
            refine wp_seq ?_
            refine L_region ?_
            refine L_mv ?_
            refine L_mv ?_
            refine L_u (P_lnl is22 h) ?_
            intro v w h
            refine L_u (P_lt h) ?_
            intro v w h
            refine L_mv ?_
            refine L_g (t := 63) h rfl rfl (fun c h => P_mv h c) ?_
            intro v w h
            refine L_g (t := 63) h rfl rfl (fun c h => P_lt h c) ?_
            intro v w h
            refine L_u (P_pk h) ?_
            intro v w h
            refine L_nil ?_
            refine E_n ?_
            refine C_cnd h (fun h => ?_) (fun h => ?_)
            · refine C_skip ?_
              refine E_n ?_
              refine wp_seq ?_
              refine C_blk ?_
              refine wp_seq ?_
              refine L_region ?_
              refine L_mv ?_
              refine L_mv ?_
              refine L_mv ?_
              refine L_u (P_ia se22 h) ?_
              intro v w h
              refine L_u (P_ld sc3 h) ?_
              intro v w h
              refine L_u (N_cl Tryz.func20 rfl nn20 (fun w Q h => s20 _ _ w Q h) h) ?_
              intro v w h
              refine L_as ?_
              refine L_nil ?_
              refine E_n ?_
              refine wp_seq ?_
              refine L_region ?_
              refine L_mv ?_
              refine L_u (N_cl Tryz.func18 rfl nn18 (fun w Q h => s18 _ w Q h) h) ?_
              intro v w h
              refine L_mv ?_
              refine L_u (P_ex h) ?_
              intro v w h
              refine L_u (P_ex h) ?_
              intro v w h
              refine L_as ?_
              refine L_as ?_
              refine L_nil ?_
              refine E_n ?_
              refine wp_seq ?_
              refine L_region ?_
              refine L_mv ?_
              refine L_mv ?_
              refine L_u (P_ia se22 h) ?_
              intro v w h
              refine L_u (P_ld sc3 h) ?_
              intro v w h
              refine L_u (P_gt h) ?_
              intro v w h
              refine L_mv ?_
              refine L_g (t := 85) h rfl rfl (fun c h => P_mv h c) ?_
              intro v w h
              refine L_g (t := 85) h rfl rfl (fun c h => P_mv h c) ?_
              intro v w h
              refine L_g (t := 85) h rfl rfl (fun c h => P_ia se22 h c) ?_
              intro v w h
              refine L_g (t := 85) h rfl rfl (fun c h => P_ld sc3 h c) ?_
              intro v w h
              refine L_g (t := 85) h rfl rfl (fun c h => P_mv h c) ?_
              intro v w h
              refine L_g (t := 85) h rfl rfl (fun c h => P_lt h c) ?_
              intro v w h
              refine L_u (P_pk h) ?_
              intro v w h
              refine L_as ?_
              refine L_nil ?_
              refine E_n ?_
              refine wp_seq ?_
              refine L_region ?_
              refine L_mv ?_
              refine L_mv ?_
              refine L_g (t := 94) h rfl rfl (fun c h => P_mv h c) ?_
              intro v w h
              refine L_g (t := 94) h rfl rfl (fun c h => P_nei h c) ?_
              intro v w h
              refine L_g (t := 94) h rfl rfl (fun c h => P_mv h c) ?_
              intro v w h
              refine L_g (t := 97) h rfl rfl (fun c h => P_mv h c) ?_
              intro v w h
              refine L_g (t := 97) h rfl rfl (fun c h => P_nei h c) ?_
              intro v w h
              refine L_g (t := 94) h rfl rfl (fun c h => P_pk h c) ?_
              intro v w h
              refine L_g (t := 94) h rfl rfl (fun c h => P_mv h c) ?_
              intro v w h
              refine L_g (t := 101) h rfl rfl (fun c h => P_mv h c) ?_
              intro v w h
              refine L_g (t := 101) h rfl rfl (fun c h => P_mv h c) ?_
              intro v w h
              refine L_g (t := 101) h rfl rfl (fun c h => P_mv h c) ?_
              intro v w h
              refine L_g (t := 101) h rfl rfl (fun c h => P_ia se22 h c) ?_
              intro v w h
              refine L_g (t := 101) h rfl rfl (fun c h => P_ld sc3 h c) ?_
              intro v w h
              refine L_g (t := 101) h rfl rfl (fun c h => P_nei h c) ?_
              intro v w h
              refine L_g (t := 94) h rfl rfl (fun c h => P_pk h c) ?_
              intro v w h
              refine L_u (P_pk h) ?_
              intro v w h
              refine L_mv ?_
              refine L_g (t := 110) h rfl rfl (fun c h => P_mv h c) ?_
              intro v w h
              refine L_g (t := 110) h rfl rfl (fun c h => P_nt h c) ?_
              intro v w h
              refine L_g (t := 110) h rfl rfl (fun c h => P_mv h c) ?_
              intro v w h
              refine L_g (t := 113) h rfl rfl (fun c h => P_mv h c) ?_
              intro v w h
              refine L_g (t := 113) h rfl rfl (fun c h => P_nei h c) ?_
              intro v w h
              refine L_g (t := 113) h rfl rfl (fun c h => P_mv h c) ?_
              intro v w h
              refine L_g (t := 116) h rfl rfl (fun c h => P_mv h c) ?_
              intro v w h
              refine L_g (t := 116) h rfl rfl (fun c h => P_nei h c) ?_
              intro v w h
              refine L_g (t := 113) h rfl rfl (fun c h => P_pk h c) ?_
              intro v w h
              refine L_g (t := 110) h rfl rfl (fun c h => P_pk h c) ?_
              intro v w h
              refine L_u (P_pk h) ?_
              intro v w h
              refine L_nil ?_
              refine E_n ?_
              refine C_cnd h (fun h => ?_) (fun h => ?_)
              · refine wp_seq ?_
                refine L_region ?_
                refine L_as ?_
                refine L_nil ?_
                refine E_n ?_
                refine C_ret ?_
                show bodyPost Tryz.prog Tryz.f3 (Rt Q) .ret _ _
                exact post_tmps (ts := [4]) (.inr rfl) rfl h
              · refine C_skip ?_
                refine B_n ?_
                refine E_n ?_
                refine L_region ?_
                refine L_mv ?_
                refine L_u (P_ad h) ?_
                intro v w h
                refine L_as ?_
                refine L_nil ?_
                refine E_n ?_
                exact L4 _ _ h
            · refine C_exit ?_
              refine E_x ?_
              refine E_x ?_
              refine B_x ?_
              exact J3 _ _ h
          · unfold f3_j3 at h
            refine E_n ?_
            refine wp_seq ?_
            refine L_region ?_
            refine L_mv ?_
            refine L_u (N_cl Tryz.func19 rfl nn19 (fun w Q h => s19 _ w Q h) h) ?_
            intro v w h
            refine L_mv ?_
            refine L_u (P_eqi h) ?_
            intro v w h
            refine L_as ?_
            refine L_nil ?_
            refine E_n ?_
            refine C_ret ?_
            show bodyPost Tryz.prog Tryz.f3 (Rt Q) .ret _ _
            exact post_tmps (ts := [4]) (.inr rfl) rfl h

/- factotum/factotumlaw07.opened -/
def f24 (t0 : Value) : M :=
  cl (f39 t0) fun t7 =>
  cl (f38 t7) fun t8 =>
  cl (f40 t8 t0) fun t10 =>
  ex 0 t10 fun t11 =>
  ex 1 t10 fun t12 =>
  nei .i64 t12 (.int .i64 0) fun t14 =>
  cnd t14 (
    rt (.pointer none)
    ) (
    rt t11
    )
theorem s24 (t0 : Value) (w : World) (Q : Value → World → Prop) (h : f24 t0 w Q) : Calls Tryz.prog 24 #[t0] w (Rt Q) := by
  refine calls_of (l := [t0]) Tryz.func24 rfl Tryz.ntmps24 (Nat.le_of_ble_eq_true rfl) ?_
  unfold f24 at h
  refine wp_seq ?_
  refine L_region ?_
  refine L_as ?_
  refine L_nil ?_
  refine E_n ?_
  refine wp_seq ?_
  refine L_region ?_
  refine L_mv ?_
  refine L_u (N_cl Tryz.func39 rfl nn39 (fun w Q h => s39 _ w Q h) h) ?_
  intro v w h
  refine L_u (N_cl Tryz.func38 rfl nn38 (fun w Q h => s38 _ w Q h) h) ?_
  intro v w h
  refine L_mv ?_
  refine L_u (N_cl Tryz.func40 rfl nn40 (fun w Q h => s40 _ _ w Q h) h) ?_
  intro v w h
  refine L_mv ?_
  refine L_u (P_ex h) ?_
  intro v w h
  refine L_u (P_ex h) ?_
  intro v w h
  refine L_as ?_
  refine L_as ?_
  refine L_nil ?_
  refine E_n ?_
  refine wp_seq ?_
  refine wp_seq ?_
  refine L_region ?_
  refine L_mv ?_
  refine L_u (P_nei h) ?_
  intro v w h
  refine L_nil ?_
  refine E_n ?_
  refine C_cnd h (fun h => ?_) (fun h => ?_)
  · refine wp_seq ?_
    refine L_region ?_
    refine L_as ?_
    refine L_nil ?_
    refine E_n ?_
    refine C_ret ?_
    show bodyPost Tryz.prog Tryz.f24 (Rt Q) .ret _ _
    exact post_tmps (ts := [2]) (.inr rfl) rfl h
  · refine C_skip ?_
    refine E_n ?_
    refine wp_seq ?_
    refine L_region ?_
    refine L_mv ?_
    refine L_as ?_
    refine L_nil ?_
    refine E_n ?_
    refine C_ret ?_
    show bodyPost Tryz.prog Tryz.f24 (Rt Q) .ret _ _
    exact post_tmps (ts := [2]) (.inr rfl) rfl h

/- (*factotum/cache.Cache).Hits -/
def f31 (t0 : Value) : M :=
  smr Tryz.prog (do eqGuard .eql 29 (.tmp 3) (.const (.pointer none)) t0 (.pointer none); binOp .eql 29 t0 (.pointer none)) fun t4 =>
  cnd t4 (
    rt (.int .i64 0)
    ) (
    nc t0 fun t6 =>
    fa 8 t6 fun t7 =>
    ld t7 fun t8 =>
    rt t8
    )
theorem s31 (t0 : Value) (w : World) (Q : Value → World → Prop) (h : f31 t0 w Q) : Calls Tryz.prog 31 #[t0] w (Rt Q) := by
  refine calls_of (l := [t0]) Tryz.func31 rfl Tryz.ntmps31 (Nat.le_of_ble_eq_true rfl) ?_
  unfold f31 at h
  refine wp_seq ?_
  refine L_region ?_
  refine L_as ?_
  refine L_nil ?_
  refine E_n ?_
  refine wp_seq ?_
  refine wp_seq ?_
  refine L_region ?_
  refine L_mv ?_
  refine L_u (P_smr rfl h) ?_
  intro v w h
  refine L_nil ?_
  refine E_n ?_
  refine C_cnd h (fun h => ?_) (fun h => ?_)
  · refine wp_seq ?_
    refine L_region ?_
    refine L_as ?_
    refine L_nil ?_
    refine E_n ?_
    refine C_ret ?_
    show bodyPost Tryz.prog Tryz.f31 (Rt Q) .ret _ _
    exact post_tmps (ts := [2]) (.inr rfl) rfl h
  · refine C_skip ?_
    refine E_n ?_
    refine wp_seq ?_
    refine L_region ?_
    refine L_mv ?_
    refine L_u (P_nc h) ?_
    intro v w h
    refine L_u (P_fa fo124_4 h) ?_
    intro v w h
    refine L_u (P_ld sc3 h) ?_
    intro v w h
    refine L_as ?_
    refine L_nil ?_
    refine E_n ?_
    refine C_ret ?_
    show bodyPost Tryz.prog Tryz.f31 (Rt Q) .ret _ _
    exact post_tmps (ts := [2]) (.inr rfl) rfl h

/- (*factotum/cache.Cache).Misses -/
def f32 (t0 : Value) : M :=
  smr Tryz.prog (do eqGuard .eql 29 (.tmp 3) (.const (.pointer none)) t0 (.pointer none); binOp .eql 29 t0 (.pointer none)) fun t4 =>
  cnd t4 (
    rt (.int .i64 0)
    ) (
    nc t0 fun t6 =>
    fa 9 t6 fun t7 =>
    ld t7 fun t8 =>
    rt t8
    )
theorem s32 (t0 : Value) (w : World) (Q : Value → World → Prop) (h : f32 t0 w Q) : Calls Tryz.prog 32 #[t0] w (Rt Q) := by
  refine calls_of (l := [t0]) Tryz.func32 rfl Tryz.ntmps32 (Nat.le_of_ble_eq_true rfl) ?_
  unfold f32 at h
  refine wp_seq ?_
  refine L_region ?_
  refine L_as ?_
  refine L_nil ?_
  refine E_n ?_
  refine wp_seq ?_
  refine wp_seq ?_
  refine L_region ?_
  refine L_mv ?_
  refine L_u (P_smr rfl h) ?_
  intro v w h
  refine L_nil ?_
  refine E_n ?_
  refine C_cnd h (fun h => ?_) (fun h => ?_)
  · refine wp_seq ?_
    refine L_region ?_
    refine L_as ?_
    refine L_nil ?_
    refine E_n ?_
    refine C_ret ?_
    show bodyPost Tryz.prog Tryz.f32 (Rt Q) .ret _ _
    exact post_tmps (ts := [2]) (.inr rfl) rfl h
  · refine C_skip ?_
    refine E_n ?_
    refine wp_seq ?_
    refine L_region ?_
    refine L_mv ?_
    refine L_u (P_nc h) ?_
    intro v w h
    refine L_u (P_fa fo124_5 h) ?_
    intro v w h
    refine L_u (P_ld sc3 h) ?_
    intro v w h
    refine L_as ?_
    refine L_nil ?_
    refine E_n ?_
    refine C_ret ?_
    show bodyPost Tryz.prog Tryz.f32 (Rt Q) .ret _ _
    exact post_tmps (ts := [2]) (.inr rfl) rfl h

/- factotum/factotumref04.SameInts -/
def f33_b2 (j1 : M) (self2 : Value → Value → Value → M) (t0_1 t1_1 t5 : Value) : M :=
  lnl t0_1 fun t13 =>
  lt .i64 t5 t13 fun t14 =>
  cnd t14 (
    dr <|
    idv t0_1 fun t17 =>
    idv t5 fun t18 =>
    ia 1 t17 t18 fun t19 =>
    ld t19 fun t20 =>
    idv t1_1 fun t21 =>
    idv t5 fun t22 =>
    ia 1 t21 t22 fun t23 =>
    ld t23 fun t24 =>
    nei .i64 t20 t24 fun t25 =>
    cnd t25 (
      rt (.bool false)
      ) (
      ad .i64 t5 (.int .i64 1) fun t16 =>
      self2 t0_1 t1_1 t16
      )
    ) (
    j1
    )
def f33_j1 : M :=
  rt (.bool true)
def f33 (t0 t1 : Value) : M :=
  lnl t0 fun t7 =>
  lnl t1 fun t9 =>
  nei .i64 t7 t9 fun t10 =>
  cnd t10 (
    rt (.bool false)
    ) (
    jn (fun (j1 : M) =>
      lo (fun _ _ _ => bot) (f33_b2 j1) (fun l => l t0 t1 (.int .i64 0))
      ) (f33_j1)
    )
theorem s33 (t0 t1 : Value) (w : World) (Q : Value → World → Prop) (h : f33 t0 t1 w Q) : Calls Tryz.prog 33 #[t0, t1] w (Rt Q) := by
  refine calls_of (l := [t0, t1]) Tryz.func33 rfl Tryz.ntmps33 (Nat.le_of_ble_eq_true rfl) ?_
  unfold f33 at h
  refine wp_seq ?_
  refine L_region ?_
  refine L_as ?_
  refine L_nil ?_
  refine E_n ?_
  refine wp_seq ?_
  refine wp_seq ?_
  refine L_region ?_
  refine L_mv ?_
  refine L_u (P_lnl is22 h) ?_
  intro v w h
  refine L_mv ?_
  refine L_u (P_lnl is22 h) ?_
  intro v w h
  refine L_u (P_nei h) ?_
  intro v w h
  refine L_nil ?_
  refine E_n ?_
  refine C_cnd h (fun h => ?_) (fun h => ?_)
  · refine wp_seq ?_
    refine L_region ?_
    refine L_as ?_
    refine L_nil ?_
    refine E_n ?_
    refine C_ret ?_
    show bodyPost Tryz.prog Tryz.f33 (Rt Q) .ret _ _
    exact post_tmps (ts := [4]) (.inr rfl) rfl h
  · refine C_skip ?_
    refine E_n ?_
    refine wp_seq ?_
    refine wp_seq ?_
    refine L_region ?_
    refine L_as ?_
    refine L_nil ?_
    refine E_n ?_
    refine C_join (fun (k : M) (ρ : Nat → Value) => k) h (fun j1 J1 h => ?_) (fun ρ w h => ?_)
    · refine C_blk ?_
      refine C_lo (fun (l : Value → Value → Value → M) (ρ : Nat → Value) => l (ρ 0) (ρ 1) (ρ 5)) h (fun ρ w h => h) (fun nx self2 L2 ρ w h => ?_)
      unfold f33_b2 at h
      refine wp_seq ?_
      refine wp_seq ?_
      refine L_region ?_
      refine L_mv ?_
      refine L_mv ?_
      refine L_u (P_lnl is22 h) ?_
      intro v w h
      refine L_u (P_lt h) ?_
      intro v w h
      refine L_nil ?_
      refine E_n ?_
      refine C_cnd h (fun h => ?_) (fun h => ?_)
      · refine C_skip ?_
        refine E_n ?_
        refine wp_seq ?_
        refine C_blk ?_
        refine wp_seq ?_
        refine D_region (by decide +kernel) 9 rfl ?_
        replace h := dr_e h
        refine G_p 0 rfl (by decide +kernel) (Y_mv h) ?_
        intro v h
        refine G_p 1 rfl (by decide +kernel) (Y_mv h) ?_
        intro v h
        refine G_p 2 rfl (by decide +kernel) (Y_ia se22 h) ?_
        intro v h
        refine G_r _ 3 rfl (by decide +kernel) (R_ld sc3 h) ?_
        intro v h
        refine G_p 4 rfl (by decide +kernel) (Y_mv h) ?_
        intro v h
        refine G_p 5 rfl (by decide +kernel) (Y_mv h) ?_
        intro v h
        refine G_p 6 rfl (by decide +kernel) (Y_ia se22 h) ?_
        intro v h
        refine G_r _ 7 rfl (by decide +kernel) (R_ld sc3 h) ?_
        intro v h
        refine G_p 8 rfl (by decide +kernel) (Y_nei h) ?_
        intro v h
        refine G_done (by decide +kernel) ?_
        refine E_n ?_
        refine C_cnd h (fun h => ?_) (fun h => ?_)
        · refine wp_seq ?_
          refine L_region ?_
          refine L_as ?_
          refine L_nil ?_
          refine E_n ?_
          refine C_ret ?_
          show bodyPost Tryz.prog Tryz.f33 (Rt Q) .ret _ _
          exact post_tmps (ts := [4]) (.inr rfl) rfl h
        · refine C_skip ?_
          refine B_n ?_
          refine E_n ?_
          refine L_region ?_
          refine L_mv ?_
          refine L_u (P_ad h) ?_
          intro v w h
          refine L_as ?_
          refine L_nil ?_
          refine E_n ?_
          exact L2 _ _ h
      · refine C_exit ?_
        refine E_x ?_
        refine E_x ?_
        refine B_x ?_
        exact J1 _ _ h
    · unfold f33_j1 at h
      refine E_n ?_
      refine wp_seq ?_
      refine L_region ?_
      refine L_as ?_
      refine L_nil ?_
      refine E_n ?_
      refine C_ret ?_
      show bodyPost Tryz.prog Tryz.f33 (Rt Q) .ret _ _
      exact post_tmps (ts := [4]) (.inr rfl) rfl h
end Go.Proofs.YtongpnolikkknaaGreatDoor

set_option maxRecDepth 20000
set_option maxHeartbeats 4000000
namespace Go.Proofs.YtongpnolikkknaaGreatDoor
open Sh
attribute [local irreducible] wpL anyG act jn lo gdB amb kp smr nc fa ld ldn st stn ad su mu qu re lt le gt ge eqi nei bws shl shr cat eqs nes lts gts eqb neb nt pk cv al bx ex fld fldn lnl lns ia iaa ixs sls sll sla mif mnm mxm mm asrt sm smu cl cc cf ci cnd gd gdu
/- (*factotum/cache.Cache).Kept -/
def f34_b2 (j1 : Value → M) (self2 : Value → Value → Value → M) (t0_1 t3 t4 : Value) : M :=
  nc t0_1 fun t15 =>
  fa 2 t15 fun t16 =>
  fa 0 t16 fun t17 =>
  smr Tryz.prog (do eqGuard .neq 116 (.tmp 13) (.tmp 17) t4 t17; binOp .neq 116 t4 t17) fun t18 =>
  cnd t18 (
    nc t4 fun t25 =>
    fa 2 t25 fun t26 =>
    fa 0 t26 fun t27 =>
    ld t27 fun t28 =>
    sm Tryz.prog (Instr.buildSlice 22 1 #[(0, t28)]) fun t29 =>
    sm Tryz.prog (Builtin.append_ #[22, 22] 22 #[t3, t29]) fun t30 =>
    nc t4 fun t20 =>
    fa 1 t20 fun t21 =>
    ld t21 fun t22 =>
    self2 t0_1 t30 t22
    ) (
    j1 t3
    )
def f34_j1 (t3_1 : Value) : M :=
  rt t3_1
def f34 (t0 : Value) : M :=
  smr Tryz.prog (do eqGuard .eql 29 (.tmp 5) (.const (.pointer none)) t0 (.pointer none); binOp .eql 29 t0 (.pointer none)) fun t6 =>
  cnd t6 (
    rt (.slice none 0 0)
    ) (
    nc t0 fun t8 =>
    fa 2 t8 fun t9 =>
    fa 0 t9 fun t10 =>
    fa 1 t10 fun t11 =>
    ld t11 fun t12 =>
    jn (fun (j1 : Value → M) =>
      lo (fun _ _ _ => bot) (f34_b2 j1) (fun l => l t0 (.slice none 0 0) t12)
      ) (f34_j1)
    )
theorem s34 (t0 : Value) (w : World) (Q : Value → World → Prop) (h : f34 t0 w Q) : Calls Tryz.prog 34 #[t0] w (Rt Q) := by
  refine calls_of (l := [t0]) Tryz.func34 rfl Tryz.ntmps34 (Nat.le_of_ble_eq_true rfl) ?_
  unfold f34 at h
  refine wp_seq ?_
  refine L_region ?_
  refine L_as ?_
  refine L_nil ?_
  refine E_n ?_
  refine wp_seq ?_
  refine wp_seq ?_
  refine L_region ?_
  refine L_mv ?_
  refine L_u (P_smr rfl h) ?_
  intro v w h
  refine L_nil ?_
  refine E_n ?_
  refine C_cnd h (fun h => ?_) (fun h => ?_)
  · refine wp_seq ?_
    refine L_region ?_
    refine L_as ?_
    refine L_nil ?_
    refine E_n ?_
    refine C_ret ?_
    show bodyPost Tryz.prog Tryz.f34 (Rt Q) .ret _ _
    exact post_tmps (ts := [2]) (.inr rfl) rfl h
  · refine C_skip ?_
    refine E_n ?_
    refine wp_seq ?_
    refine L_region ?_
    refine L_as ?_
    refine L_nil ?_
    refine E_n ?_
    refine wp_seq ?_
    refine wp_seq ?_
    refine L_region ?_
    refine L_mv ?_
    refine L_u (P_nc h) ?_
    intro v w h
    refine L_u (P_fa fo124_2 h) ?_
    intro v w h
    refine L_u (P_fa fo122_0 h) ?_
    intro v w h
    refine L_u (P_fa fo120_1 h) ?_
    intro v w h
    refine L_u (P_ld sc116 h) ?_
    intro v w h
    refine L_as ?_
    refine L_nil ?_
    refine E_n ?_
    refine C_join (fun (k : Value → M) (ρ : Nat → Value) => k (ρ 3)) h (fun j1 J1 h => ?_) (fun ρ w h => ?_)
    · refine C_blk ?_
      refine C_lo (fun (l : Value → Value → Value → M) (ρ : Nat → Value) => l (ρ 0) (ρ 3) (ρ 4)) h (fun ρ w h => h) (fun nx self2 L2 ρ w h => ?_)
      unfold f34_b2 at h
      refine wp_seq ?_
      refine wp_seq ?_
      refine L_region ?_
      refine L_mv ?_
      refine L_mv ?_
      refine L_u (P_nc h) ?_
      intro v w h
      refine L_u (P_fa fo124_2 h) ?_
      intro v w h
      refine L_u (P_fa fo122_0 h) ?_
      intro v w h
      refine L_u (P_smr rfl h) ?_
      intro v w h
      refine L_nil ?_
      refine E_n ?_
      refine C_cnd h (fun h => ?_) (fun h => ?_)
      · refine C_skip ?_
        refine E_n ?_
        refine wp_seq ?_
        refine C_blk ?_
        refine L_region ?_
        refine L_mv ?_
        refine L_mv ?_
        refine L_u (P_nc h) ?_
        intro v w h
        refine L_u (P_fa fo120_2 h) ?_
        intro v w h
        refine L_u (P_fa fo118_0 h) ?_
        intro v w h
        refine L_u (P_ld sc3 h) ?_
        intro v w h
        refine L_u (N_bsl h) ?_
        intro v w h
        refine L_u (N_bi rfl h) ?_
        intro v w h
        refine L_as ?_
        refine L_nil ?_
        refine B_n ?_
        refine E_n ?_
        refine L_region ?_
        refine L_mv ?_
        refine L_u (P_nc h) ?_
        intro v w h
        refine L_u (P_fa fo120_1 h) ?_
        intro v w h
        refine L_u (P_ld sc116 h) ?_
        intro v w h
        refine L_as ?_
        refine L_nil ?_
        refine E_n ?_
        exact L2 _ _ h
      · refine C_exit ?_
        refine E_x ?_
        refine E_x ?_
        refine B_x ?_
        exact J1 _ _ h
    · unfold f34_j1 at h
      refine E_n ?_
      refine wp_seq ?_
      refine L_region ?_
      refine L_mv ?_
      refine L_as ?_
      refine L_nil ?_
      refine E_n ?_
      refine C_ret ?_
      show bodyPost Tryz.prog Tryz.f34 (Rt Q) .ret _ _
      exact post_tmps (ts := [2]) (.inr rfl) rfl h

/- factotum/factotumlaw07.lives -/
def f21_b2 (j1 : Value → M) (self2 : Value → Value → Value → M) (t1 t2 t3 : Value) : M :=
  lnl t2 fun t13 =>
  lt .i64 t3 t13 fun t14 =>
  cnd t14 (
    ia 1 t2 t3 fun t21 =>
    ld t21 fun t22 =>
    cl (f27 t1 t22) fun t23 =>
    ex 0 t23 fun t24 =>
    ex 1 t23 fun t25 =>
    nei .i64 t25 (.int .i64 0) fun t27 =>
    gd t27 false (idv t24) fun t29 =>
    gd t27 false (lns t29) fun t30 =>
    gd t27 false (nei .i64 t30 (.int .i64 256)) fun t31 =>
    pk t27 (.bool true) t31 fun t32 =>
    cnd t32 (
      rt (.bool false)
      ) (
      ad .i64 t3 (.int .i64 1) fun t16 =>
      self2 t1 t2 t16
      )
    ) (
    j1 t1
    )
def f21_j1 (t1_1 : Value) : M :=
  cl (f31 t1_1) fun t34 =>
  eqi .i64 t34 (.int .i64 2) fun t35 =>
  gd t35 true (idv t1_1) fun t37 =>
  gd t35 true (cl (f32 t37)) fun t38 =>
  gd t35 true (eqi .i64 t38 (.int .i64 3)) fun t39 =>
  pk t35 t39 (.bool false) fun t40 =>
  gd t40 true (idv t1_1) fun t42 =>
  gd t40 true (cl (f34 t42)) fun t43 =>
  gd t40 true (sm Tryz.prog (Instr.buildSlice 22 2 #[(0, (.int .i64 1)), (1, (.int .i64 3))])) fun t44 =>
  gd t40 true (cl (f33 t43 t44)) fun t45 =>
  pk t40 t45 (.bool false) fun t46 =>
  gd t46 true (idv t1_1) fun t48 =>
  gd t46 true (cl (f28 t48)) fun t49 =>
  gd t46 true (eqi .i64 t49 (.int .i64 4)) fun t50 =>
  pk t46 t50 (.bool false) fun t51 =>
  rt t51
def f21 : M :=
  cl (f24 (.int .i64 4)) fun t6 =>
  cl (f23 t6 (.int .i64 2)) fun t7 =>
  smr Tryz.prog (do eqGuard .eql 29 (.tmp 8) (.const (.pointer none)) t7 (.pointer none); binOp .eql 29 t7 (.pointer none)) fun t9 =>
  cnd t9 (
    rt (.bool false)
    ) (
    sm Tryz.prog (Instr.buildSlice 22 5 #[(0, (.int .i64 1)), (1, (.int .i64 2)), (2, (.int .i64 1)), (3, (.int .i64 3)), (4, (.int .i64 1))]) fun t10 =>
    jn (fun (j1 : Value → M) =>
      lo (fun _ _ _ => bot) (f21_b2 j1) (fun l => l t7 t10 (.int .i64 0))
      ) (f21_j1)
    )
theorem s21 (w : World) (Q : Value → World → Prop) (h : f21 w Q) : Calls Tryz.prog 21 #[] w (Rt Q) := by
  refine calls_of (l := []) Tryz.func21 rfl Tryz.ntmps21 (Nat.le_of_ble_eq_true rfl) ?_
  unfold f21 at h
  refine wp_seq ?_
  refine L_region ?_
  refine L_as ?_
  refine L_nil ?_
  refine E_n ?_
  refine wp_seq ?_
  refine L_region ?_
  refine L_u (N_cl Tryz.func24 rfl nn24 (fun w Q h => s24 _ w Q h) h) ?_
  intro v w h
  refine L_u (N_cl Tryz.func23 rfl nn23 (fun w Q h => s23 _ _ w Q h) h) ?_
  intro v w h
  refine L_as ?_
  refine L_nil ?_
  refine E_n ?_
  refine wp_seq ?_
  refine wp_seq ?_
  refine L_region ?_
  refine L_mv ?_
  refine L_u (P_smr rfl h) ?_
  intro v w h
  refine L_nil ?_
  refine E_n ?_
  refine C_cnd h (fun h => ?_) (fun h => ?_)
  · refine wp_seq ?_
    refine L_region ?_
    refine L_as ?_
    refine L_nil ?_
    refine E_n ?_
    refine C_ret ?_
    show bodyPost Tryz.prog Tryz.f21 (Rt Q) .ret _ _
    exact post_tmps (ts := [0]) (.inr rfl) rfl h
  · refine C_skip ?_
    refine E_n ?_
    refine wp_seq ?_
    refine L_region ?_
    refine L_u (N_bsl h) ?_
    intro v w h
    refine L_as ?_
    refine L_nil ?_
    refine E_n ?_
    refine wp_seq ?_
    refine wp_seq ?_
    refine L_region ?_
    refine L_as ?_
    refine L_nil ?_
    refine E_n ?_
    refine C_join (fun (k : Value → M) (ρ : Nat → Value) => k (ρ 1)) h (fun j1 J1 h => ?_) (fun ρ w h => ?_)
    · refine C_blk ?_
      refine C_lo (fun (l : Value → Value → Value → M) (ρ : Nat → Value) => l (ρ 1) (ρ 2) (ρ 3)) h (fun ρ w h => h) (fun nx self2 L2 ρ w h => ?_)
      unfold f21_b2 at h
      refine wp_seq ?_
      refine wp_seq ?_
      refine L_region ?_
      refine L_mv ?_
      refine L_mv ?_
      refine L_u (P_lnl is22 h) ?_
      intro v w h
      refine L_u (P_lt h) ?_
      intro v w h
      refine L_nil ?_
      refine E_n ?_
      refine C_cnd h (fun h => ?_) (fun h => ?_)
      · refine C_skip ?_
        refine E_n ?_
        refine wp_seq ?_
        refine C_blk ?_
        refine wp_seq ?_
        refine L_region ?_
        refine L_mv ?_
        refine L_mv ?_
        refine L_mv ?_
        refine L_u (P_ia se22 h) ?_
        intro v w h
        refine L_u (P_ld sc3 h) ?_
        intro v w h
        refine L_u (N_cl Tryz.func27 rfl nn27 (fun w Q h => s27 _ _ w Q h) h) ?_
        intro v w h
        refine L_mv ?_
        refine L_u (P_ex h) ?_
        intro v w h
        refine L_u (P_ex h) ?_
        intro v w h
        refine L_as ?_
        refine L_as ?_
        refine L_nil ?_
        refine E_n ?_
        refine wp_seq ?_
        refine L_region ?_
        refine L_mv ?_
        refine L_u (P_nei h) ?_
        intro v w h
        refine L_mv ?_
        refine L_g (t := 28) h rfl rfl (fun c h => P_mv h c) ?_
        intro v w h
        refine L_g (t := 28) h rfl rfl (fun c h => P_lns st9 h c) ?_
        intro v w h
        refine L_g (t := 28) h rfl rfl (fun c h => P_nei h c) ?_
        intro v w h
        refine L_u (P_pk h) ?_
        intro v w h
        refine L_nil ?_
        refine E_n ?_
        refine C_cnd h (fun h => ?_) (fun h => ?_)
        · refine wp_seq ?_
          refine L_region ?_
          refine L_as ?_
          refine L_nil ?_
          refine E_n ?_
          refine C_ret ?_
          show bodyPost Tryz.prog Tryz.f21 (Rt Q) .ret _ _
          exact post_tmps (ts := [0]) (.inr rfl) rfl h
        · refine C_skip ?_
          refine B_n ?_
          refine E_n ?_
          refine L_region ?_
          refine L_mv ?_
          refine L_u (P_ad h) ?_
          intro v w h
          refine L_as ?_
          refine L_nil ?_
          refine E_n ?_
          exact L2 _ _ h
      · refine C_exit ?_
        refine E_x ?_
        refine E_x ?_
        refine B_x ?_
        exact J1 _ _ h
    · unfold f21_j1 at h
      refine E_n ?_
      refine wp_seq ?_
      refine L_region ?_
      refine L_mv ?_
      refine L_u (N_cl Tryz.func31 rfl nn31 (fun w Q h => s31 _ w Q h) h) ?_
      intro v w h
      refine L_u (P_eqi h) ?_
      intro v w h
      refine L_mv ?_
      refine L_g (t := 36) h rfl rfl (fun c h => P_mv h c) ?_
      intro v w h
      refine L_g (t := 36) h rfl rfl (fun c h => N_cl Tryz.func32 rfl nn32 (fun w Q h => s32 _ w Q h) h c) ?_
      intro v w h
      refine L_g (t := 36) h rfl rfl (fun c h => P_eqi h c) ?_
      intro v w h
      refine L_u (P_pk h) ?_
      intro v w h
      refine L_mv ?_
      refine L_g (t := 41) h rfl rfl (fun c h => P_mv h c) ?_
      intro v w h
      refine L_g (t := 41) h rfl rfl (fun c h => N_cl Tryz.func34 rfl nn34 (fun w Q h => s34 _ w Q h) h c) ?_
      intro v w h
      refine L_g (t := 41) h rfl rfl (fun c h => N_bsl h c) ?_
      intro v w h
      refine L_g (t := 41) h rfl rfl (fun c h => N_cl Tryz.func33 rfl nn33 (fun w Q h => s33 _ _ w Q h) h c) ?_
      intro v w h
      refine L_u (P_pk h) ?_
      intro v w h
      refine L_mv ?_
      refine L_g (t := 47) h rfl rfl (fun c h => P_mv h c) ?_
      intro v w h
      refine L_g (t := 47) h rfl rfl (fun c h => N_cl Tryz.func28 rfl nn28 (fun w Q h => s28 _ w Q h) h c) ?_
      intro v w h
      refine L_g (t := 47) h rfl rfl (fun c h => P_eqi h c) ?_
      intro v w h
      refine L_u (P_pk h) ?_
      intro v w h
      refine L_as ?_
      refine L_nil ?_
      refine E_n ?_
      refine C_ret ?_
      show bodyPost Tryz.prog Tryz.f21 (Rt Q) .ret _ _
      exact post_tmps (ts := [0]) (.inr rfl) rfl h

/- factotum/factotumlaw07.early -/
def f22 (t0 : Value) : M :=
  lnl t0 fun t5 =>
  mnm t5 (.int .i64 300) fun t6 =>
  sll 3 t0 none (some t6) fun t7 =>
  rt t7
theorem s22 (t0 : Value) (w : World) (Q : Value → World → Prop) (h : f22 t0 w Q) : Calls Tryz.prog 22 #[t0] w (Rt Q) := by
  refine calls_of (l := [t0]) Tryz.func22 rfl Tryz.ntmps22 (Nat.le_of_ble_eq_true rfl) ?_
  unfold f22 at h
  refine wp_seq ?_
  refine L_region ?_
  refine L_as ?_
  refine L_nil ?_
  refine E_n ?_
  refine wp_seq ?_
  refine L_region ?_
  refine L_mv ?_
  refine L_mv ?_
  refine L_u (P_lnl is36 h) ?_
  intro v w h
  refine L_u (P_mnm (t := 0) h) ?_
  intro v w h
  refine L_u (P_sll se36 h) ?_
  intro v w h
  refine L_as ?_
  refine L_nil ?_
  refine E_n ?_
  refine C_ret ?_
  show bodyPost Tryz.prog Tryz.f22 (Rt Q) .ret _ _
  exact post_tmps (ts := [2]) (.inr rfl) rfl h

/- (*factotum/pager.Pager).may -/
def f89_b2 (j1 : Value → M) (self2 : Value → Value → Value → Value → Value → Value → M) (t0_1 t5 t6 t17 t18_1 t19 : Value) : M :=
  lt .i64 t19 t18_1 fun t20 =>
  cnd t20 (
    ia 2 t17 t19 fun t21 =>
    ldn 2 t21 fun t22 =>
    al 48 #[(.int .i64 0), (.string ⟨#[]⟩)] fun t8 =>
    stn 2 t8 t22 <|
    dr <|
    fa 0 t8 fun t23 =>
    ld t23 fun t24 =>
    lt .i64 t24 (.int .i64 0) fun t25 =>
    idv t25 fun t26 =>
    gd t26 false (fa 0 t8) fun t27 =>
    gd t26 false (ld t27) fun t28 =>
    gd t26 false (idv t0_1) fun t29 =>
    gd t26 false (nc t29) fun t30 =>
    gd t26 false (fa 1 t30) fun t31 =>
    gd t26 false (ld t31) fun t32 =>
    gd t26 false (lnl t32) fun t33 =>
    gd t26 false (ge .i64 t28 t33) fun t34 =>
    pk t26 (.bool true) t34 fun t35 =>
    cnd t35 (
      rt (.int .i64 7)
      ) (
      fa 0 t8 fun t37 =>
      ld t37 fun t38 =>
      smr Tryz.prog (Instr.lookup 164 t5 t38 false) fun t39 =>
      ad .i64 t39 (.int .i64 1) fun t40 =>
      smu Tryz.prog (Instr.mapUpdate 164 t5 t38 t40) <|
      gd t6 false (idv t5) fun t43 =>
      gd t6 false (fa 0 t8) fun t44 =>
      gd t6 false (ld t44) fun t45 =>
      gd t6 false (smr Tryz.prog (Instr.lookup 164 t43 t45 false)) fun t46 =>
      gd t6 false (gt .i64 t46 (.int .i64 1)) fun t47 =>
      pk t6 (.bool true) t47 fun t48 =>
      gd t48 false (fa 1 t8) fun t50 =>
      gd t48 false (ld t50) fun t51 =>
      gd t48 false (lns t51) fun t52 =>
      gd t48 false (nei .i64 t52 (.int .i64 256)) fun t53 =>
      pk t48 (.bool true) t53 fun t54 =>
      ad .i64 t19 (.int .i64 1) fun t55 =>
      self2 t0_1 t5 t54 t17 t18_1 t55
      )
    ) (
    j1 t6
    )
def f89_j1 (t6_1 : Value) : M :=
  cnd t6_1 (
    rt (.int .i64 1)
    ) (
    rt (.int .i64 0)
    )
def f89 (t0 t1 : Value) : M :=
  nc t0 fun t10 =>
  fa 2 t10 fun t11 =>
  ld t11 fun t12 =>
  cnd t12 (
    rt (.int .i64 13)
    ) (
    lnl t1 fun t14 =>
    gt .i64 t14 (.int .i64 31) fun t15 =>
    cnd t15 (
      rt (.int .i64 3)
      ) (
      mm fun t16 =>
      lnl t1 fun t18 =>
      jn (fun (j1 : Value → M) =>
        lo (fun _ _ _ _ _ _ => bot) (f89_b2 j1) (fun l => l t0 t16 (.bool false) t1 t18 (.int .i64 0))
        ) (f89_j1)
      )
    )
theorem s89 (t0 t1 : Value) (w : World) (Q : Value → World → Prop) (h : f89 t0 t1 w Q) : Calls Tryz.prog 89 #[t0, t1] w (Rt Q) := by
  refine calls_of (l := [t0, t1]) Tryz.func89 rfl Tryz.ntmps89 (Nat.le_of_ble_eq_true rfl) ?_
  unfold f89 at h
  refine wp_seq ?_
  refine L_region ?_
  refine L_as ?_
  refine L_nil ?_
  refine E_n ?_
  refine wp_seq ?_
  refine wp_seq ?_
  refine L_region ?_
  refine L_mv ?_
  refine L_u (P_nc h) ?_
  intro v w h
  refine L_u (P_fa fo133_2 h) ?_
  intro v w h
  refine L_u (P_ld sc4 h) ?_
  intro v w h
  refine L_nil ?_
  refine E_n ?_
  refine C_cnd h (fun h => ?_) (fun h => ?_)
  · refine wp_seq ?_
    refine L_region ?_
    refine L_as ?_
    refine L_nil ?_
    refine E_n ?_
    refine C_ret ?_
    show bodyPost Tryz.prog Tryz.f89 (Rt Q) .ret _ _
    exact post_tmps (ts := [4]) (.inr rfl) rfl h
  · refine C_skip ?_
    refine E_n ?_
    refine wp_seq ?_
    refine wp_seq ?_
    refine L_region ?_
    refine L_mv ?_
    refine L_u (P_lnl is49 h) ?_
    intro v w h
    refine L_u (P_gt h) ?_
    intro v w h
    refine L_nil ?_
    refine E_n ?_
    refine C_cnd h (fun h => ?_) (fun h => ?_)
    · refine wp_seq ?_
      refine L_region ?_
      refine L_as ?_
      refine L_nil ?_
      refine E_n ?_
      refine C_ret ?_
      show bodyPost Tryz.prog Tryz.f89 (Rt Q) .ret _ _
      exact post_tmps (ts := [4]) (.inr rfl) rfl h
    · refine C_skip ?_
      refine E_n ?_
      refine wp_seq ?_
      refine L_region ?_
      refine L_u (P_mm h) ?_
      intro v w h
      refine L_as ?_
      refine L_nil ?_
      refine E_n ?_
      refine wp_seq ?_
      refine L_region ?_
      refine L_as ?_
      refine L_nil ?_
      refine E_n ?_
      refine wp_seq ?_
      refine wp_seq ?_
      refine L_region ?_
      refine L_mv ?_
      refine L_u (P_lnl is49 h) ?_
      intro v w h
      refine L_mv ?_
      refine L_nil ?_
      refine E_n ?_
      refine C_join (fun (k : Value → M) (ρ : Nat → Value) => k (ρ 6)) h (fun j1 J1 h => ?_) (fun ρ w h => ?_)
      · refine C_blk ?_
        refine C_lo (fun (l : Value → Value → Value → Value → Value → Value → M) (ρ : Nat → Value) => l (ρ 0) (ρ 5) (ρ 6) (ρ 17) (ρ 18) (ρ 19)) h (fun ρ w h => h) (fun nx self2 L2 ρ w h => ?_)
        unfold f89_b2 at h
        refine wp_seq ?_
        refine L_region ?_
        refine L_u (P_lt h) ?_
        intro v w h
        refine L_nil ?_
        refine E_n ?_
        refine wp_seq ?_
        refine C_cnd h (fun h => ?_) (fun h => ?_)
        · refine C_skip ?_
          refine E_n ?_
          refine wp_seq ?_
          refine C_blk ?_
          refine wp_seq ?_
          refine L_region ?_
          refine L_u (P_ia se49 h) ?_
          intro v w h
          refine L_u (P_ldn ag48 h) ?_
          intro v w h
          refine L_u (P_al ze48 rfl h) ?_
          intro v w h
          refine L_u (P_stn ag48 h) ?_
          intro w h
          refine L_nil ?_
          refine E_n ?_
          refine wp_seq ?_
          refine wp_seq ?_
          refine D_region (by decide +kernel) 13 rfl ?_
          replace h := dr_e h
          refine G_p 0 rfl (by decide +kernel) (Y_fa fo48_0 h) ?_
          intro v h
          refine G_r _ 1 rfl (by decide +kernel) (R_ld sc3 h) ?_
          intro v h
          refine G_p 2 rfl (by decide +kernel) (Y_lt h) ?_
          intro v h
          refine G_p 3 rfl (by decide +kernel) (Y_mv h) ?_
          intro v h
          refine G_pg (t := 26) 4 rfl (by decide +kernel) h rfl rfl (fun h => Y_fa fo48_0 h) ?_
          intro v h
          refine G_rg (t := 26) _ 5 rfl (by decide +kernel) h rfl rfl (fun h => R_ld sc3 h) ?_
          intro v h
          refine G_pg (t := 26) 6 rfl (by decide +kernel) h rfl rfl (fun h => Y_mv h) ?_
          intro v h
          refine G_pg (t := 26) 7 rfl (by decide +kernel) h rfl rfl (fun h => Y_nc h) ?_
          intro v h
          refine G_pg (t := 26) 8 rfl (by decide +kernel) h rfl rfl (fun h => Y_fa fo133_1 h) ?_
          intro v h
          refine G_rg (t := 26) _ 9 rfl (by decide +kernel) h rfl rfl (fun h => R_ld sc100 h) ?_
          intro v h
          refine G_pg (t := 26) 10 rfl (by decide +kernel) h rfl rfl (fun h => Y_lnl is100 h) ?_
          intro v h
          refine G_pg (t := 26) 11 rfl (by decide +kernel) h rfl rfl (fun h => Y_ge h) ?_
          intro v h
          refine G_p 12 rfl (by decide +kernel) (Y_pk h) ?_
          intro v h
          refine G_done (by decide +kernel) ?_
          refine E_n ?_
          refine C_cnd h (fun h => ?_) (fun h => ?_)
          · refine wp_seq ?_
            refine L_region ?_
            refine L_as ?_
            refine L_nil ?_
            refine E_n ?_
            refine C_ret ?_
            show bodyPost Tryz.prog Tryz.f89 (Rt Q) .ret _ _
            exact post_tmps (ts := [4]) (.inr rfl) rfl h
          · refine C_skip ?_
            refine E_n ?_
            refine wp_seq ?_
            refine L_region ?_
            refine L_mv ?_
            refine L_u (P_fa fo48_0 h) ?_
            intro v w h
            refine L_u (P_ld sc3 h) ?_
            intro v w h
            refine L_u (P_smr rfl h) ?_
            intro v w h
            refine L_u (P_ad h) ?_
            intro v w h
            refine L_u (P_smu rfl h) ?_
            intro w h
            refine L_nil ?_
            refine E_n ?_
            refine L_region ?_
            refine L_mv ?_
            refine L_mv ?_
            refine L_g (t := 42) h rfl rfl (fun c h => P_mv h c) ?_
            intro v w h
            refine L_g (t := 42) h rfl rfl (fun c h => P_fa fo48_0 h c) ?_
            intro v w h
            refine L_g (t := 42) h rfl rfl (fun c h => P_ld sc3 h c) ?_
            intro v w h
            refine L_g (t := 42) h rfl rfl (fun c h => P_smr rfl h c) ?_
            intro v w h
            refine L_g (t := 42) h rfl rfl (fun c h => P_gt h c) ?_
            intro v w h
            refine L_u (P_pk h) ?_
            intro v w h
            refine L_mv ?_
            refine L_g (t := 49) h rfl rfl (fun c h => P_fa fo48_1 h c) ?_
            intro v w h
            refine L_g (t := 49) h rfl rfl (fun c h => P_ld sc9 h c) ?_
            intro v w h
            refine L_g (t := 49) h rfl rfl (fun c h => P_lns st9 h c) ?_
            intro v w h
            refine L_g (t := 49) h rfl rfl (fun c h => P_nei h c) ?_
            intro v w h
            refine L_u (P_pk h) ?_
            intro v w h
            refine L_as ?_
            refine L_nil ?_
            refine B_n ?_
            refine E_n ?_
            refine L_region ?_
            refine L_u (P_ad h) ?_
            intro v w h
            refine L_mv ?_
            refine L_nil ?_
            refine E_n ?_
            exact L2 _ _ h
        · refine C_exit ?_
          refine E_x ?_
          refine E_x ?_
          refine B_x ?_
          exact J1 _ _ h
      · unfold f89_j1 at h
        refine E_n ?_
        refine wp_seq ?_
        refine wp_seq ?_
        refine L_region ?_
        refine L_mv ?_
        refine L_nil ?_
        refine E_n ?_
        refine C_cnd h (fun h => ?_) (fun h => ?_)
        · refine wp_seq ?_
          refine L_region ?_
          refine L_as ?_
          refine L_nil ?_
          refine E_n ?_
          refine C_ret ?_
          show bodyPost Tryz.prog Tryz.f89 (Rt Q) .ret _ _
          exact post_tmps (ts := [4]) (.inr rfl) rfl h
        · refine C_skip ?_
          refine E_n ?_
          refine wp_seq ?_
          refine L_region ?_
          refine L_as ?_
          refine L_nil ?_
          refine E_n ?_
          refine C_ret ?_
          show bodyPost Tryz.prog Tryz.f89 (Rt Q) .ret _ _
          exact post_tmps (ts := [4]) (.inr rfl) rfl h

/- (*factotum/pager.Pager).steps$1 -/
def f116 (t0 t1 : Value) : M :=
  ld t1 fun t4 =>
  cl (f111 t4 t0) fun t6 =>
  rt t6
theorem s116 (t0 t1 : Value) (w : World) (Q : Value → World → Prop) (h : f116 t0 t1 w Q) : Calls Tryz.prog 116 #[t0, t1] w (Rt Q) := by
  refine calls_of (l := [t0, t1]) Tryz.func116 rfl Tryz.ntmps116 (Nat.le_of_ble_eq_true rfl) ?_
  unfold f116 at h
  refine wp_seq ?_
  refine L_region ?_
  refine L_as ?_
  refine L_nil ?_
  refine E_n ?_
  refine wp_seq ?_
  refine L_region ?_
  refine L_u (P_ld sc3 h) ?_
  intro v w h
  refine L_mv ?_
  refine L_u (N_cl Tryz.func111 rfl nn111 (fun w Q h => s111 _ _ w Q h) h) ?_
  intro v w h
  refine L_as ?_
  refine L_nil ?_
  refine E_n ?_
  refine C_ret ?_
  show bodyPost Tryz.prog Tryz.f116 (Rt Q) .ret _ _
  exact post_tmps (ts := [3]) (.inr rfl) rfl h

/- (*factotum/pager.Pager).steps$2 -/
def f117 (t0 t1 : Value) : M :=
  fa 0 t1 fun t4 =>
  ld t4 fun t5 =>
  cl (f81 t5 t0) fun t7 =>
  rt t7
theorem s117 (t0 t1 : Value) (w : World) (Q : Value → World → Prop) (h : f117 t0 t1 w Q) : Calls Tryz.prog 117 #[t0, t1] w (Rt Q) := by
  refine calls_of (l := [t0, t1]) Tryz.func117 rfl Tryz.ntmps117 (Nat.le_of_ble_eq_true rfl) ?_
  unfold f117 at h
  refine wp_seq ?_
  refine L_region ?_
  refine L_as ?_
  refine L_nil ?_
  refine E_n ?_
  refine wp_seq ?_
  refine L_region ?_
  refine L_u (P_fa fo48_0 h) ?_
  intro v w h
  refine L_u (P_ld sc3 h) ?_
  intro v w h
  refine L_mv ?_
  refine L_u (N_cl Tryz.func81 rfl nn81 (fun w Q h => s81 _ _ w Q h) h) ?_
  intro v w h
  refine L_as ?_
  refine L_nil ?_
  refine E_n ?_
  refine C_ret ?_
  show bodyPost Tryz.prog Tryz.f117 (Rt Q) .ret _ _
  exact post_tmps (ts := [3]) (.inr rfl) rfl h

/- factotum/pack.Num -/
def f147_b2 (j1 : Value → M) (self2 : Value → Value → Value → M) (t0_1 t1_1 t7 : Value) : M :=
  ge .i64 t7 (.int .i64 0) fun t12 =>
  cnd t12 (
    mu .i64 (.int .i64 8) t7 fun t18 =>
    shr .u64 .i64 t1_1 t18 fun t19 =>
    cv .u8 t19 fun t20 =>
    sm Tryz.prog (Instr.buildSlice 42 1 #[(0, t20)]) fun t21 =>
    sm Tryz.prog (Builtin.append_ #[42, 42] 42 #[t0_1, t21]) fun t22 =>
    su .i64 t7 (.int .i64 1) fun t14 =>
    self2 t22 t1_1 t14
    ) (
    j1 t0_1
    )
def f147_j1 (t0_2 : Value) : M :=
  rt t0_2
def f147 (t0 t1 t2 : Value) : M :=
  cl (f163 t2) fun t9 =>
  su .i64 t9 (.int .i64 1) fun t10 =>
  jn (fun (j1 : Value → M) =>
    lo (fun _ _ _ => bot) (f147_b2 j1) (fun l => l t0 t1 t10)
    ) (f147_j1)
theorem s147 (t0 t1 t2 : Value) (w : World) (Q : Value → World → Prop) (h : f147 t0 t1 t2 w Q) : Calls Tryz.prog 147 #[t0, t1, t2] w (Rt Q) := by
  refine calls_of (l := [t0, t1, t2]) Tryz.func147 rfl Tryz.ntmps147 (Nat.le_of_ble_eq_true rfl) ?_
  unfold f147 at h
  refine wp_seq ?_
  refine L_region ?_
  refine L_as ?_
  refine L_nil ?_
  refine E_n ?_
  refine wp_seq ?_
  refine wp_seq ?_
  refine L_region ?_
  refine L_mv ?_
  refine L_u (N_cl Tryz.func163 rfl nn163 (fun w Q h => s163 _ w Q h) h) ?_
  intro v w h
  refine L_u (P_su h) ?_
  intro v w h
  refine L_as ?_
  refine L_nil ?_
  refine E_n ?_
  refine C_join (fun (k : Value → M) (ρ : Nat → Value) => k (ρ 0)) h (fun j1 J1 h => ?_) (fun ρ w h => ?_)
  · refine C_blk ?_
    refine C_lo (fun (l : Value → Value → Value → M) (ρ : Nat → Value) => l (ρ 0) (ρ 1) (ρ 7)) h (fun ρ w h => h) (fun nx self2 L2 ρ w h => ?_)
    unfold f147_b2 at h
    refine wp_seq ?_
    refine wp_seq ?_
    refine L_region ?_
    refine L_mv ?_
    refine L_u (P_ge h) ?_
    intro v w h
    refine L_nil ?_
    refine E_n ?_
    refine C_cnd h (fun h => ?_) (fun h => ?_)
    · refine C_skip ?_
      refine E_n ?_
      refine wp_seq ?_
      refine C_blk ?_
      refine L_region ?_
      refine L_mv ?_
      refine L_mv ?_
      refine L_mv ?_
      refine L_u (P_mu h) ?_
      intro v w h
      refine L_u (P_shr h) ?_
      intro v w h
      refine L_u (P_cv ai185 in5 h) ?_
      intro v w h
      refine L_u (N_bsl h) ?_
      intro v w h
      refine L_u (N_bi rfl h) ?_
      intro v w h
      refine L_as ?_
      refine L_nil ?_
      refine B_n ?_
      refine E_n ?_
      refine L_region ?_
      refine L_mv ?_
      refine L_u (P_su h) ?_
      intro v w h
      refine L_as ?_
      refine L_nil ?_
      refine E_n ?_
      exact L2 _ _ h
    · refine C_exit ?_
      refine E_x ?_
      refine E_x ?_
      refine B_x ?_
      exact J1 _ _ h
  · unfold f147_j1 at h
    refine E_n ?_
    refine wp_seq ?_
    refine L_region ?_
    refine L_mv ?_
    refine L_as ?_
    refine L_nil ?_
    refine E_n ?_
    refine C_ret ?_
    show bodyPost Tryz.prog Tryz.f147 (Rt Q) .ret _ _
    exact post_tmps (ts := [6]) (.inr rfl) rfl h

/- factotum/undo.Write -/
def f118_b2 (j1 : Value → M) (self2 : Value → Value → Value → Value → M) (t4 t19 t20_1 t21 : Value) : M :=
  lt .i64 t21 t20_1 fun t22 =>
  cnd t22 (
    ia 1 t19 t21 fun t23 =>
    ld t23 fun t24 =>
    cv .u64 t24 fun t27 =>
    cl (f147 t4 t27 (.int .i64 2)) fun t28 =>
    ad .i64 t21 (.int .i64 1) fun t29 =>
    self2 t28 t19 t20_1 t29
    ) (
    j1 t4
    )
def f118_j1 (t4_1 : Value) : M :=
  cl (f148 t4_1) fun t31 =>
  rt (.tuple #[t31, (.int .i64 0)])
def f118 (t0 : Value) : M :=
  lnl t0 fun t9 =>
  gt .i64 t9 (.int .i64 31) fun t10 =>
  cnd t10 (
    rt (.tuple #[(.string ⟨#[]⟩), (.int .i64 3)])
    ) (
    cl (f142 t0) fun t13 =>
    nt t13 fun t14 =>
    cnd t14 (
      rt (.tuple #[(.string ⟨#[]⟩), (.int .i64 1)])
      ) (
      lnl t0 fun t16 =>
      cv .u8 t16 fun t17 =>
      sm Tryz.prog (Instr.buildSlice 42 1 #[(0, t17)]) fun t18 =>
      lnl t0 fun t20 =>
      jn (fun (j1 : Value → M) =>
        lo (fun _ _ _ _ => bot) (f118_b2 j1) (fun l => l t18 t0 t20 (.int .i64 0))
        ) (f118_j1)
      )
    )
theorem s118 (t0 : Value) (w : World) (Q : Value → World → Prop) (h : f118 t0 w Q) : Calls Tryz.prog 118 #[t0] w (Rt Q) := by
  refine calls_of (l := [t0]) Tryz.func118 rfl Tryz.ntmps118 (Nat.le_of_ble_eq_true rfl) ?_
  unfold f118 at h
  refine wp_seq ?_
  refine L_region ?_
  refine L_as ?_
  refine L_as ?_
  refine L_nil ?_
  refine E_n ?_
  refine wp_seq ?_
  refine C_blk ?_
  refine wp_seq ?_
  refine L_region ?_
  refine L_mv ?_
  refine L_u (P_lnl is22 h) ?_
  intro v w h
  refine L_u (P_gt h) ?_
  intro v w h
  refine L_as ?_
  refine L_nil ?_
  refine E_n ?_
  refine C_cnd h (fun h => ?_) (fun h => ?_)
  · refine wp_seq ?_
    refine L_region ?_
    refine L_as ?_
    refine L_as ?_
    refine L_nil ?_
    refine E_n ?_
    refine C_ret ?_
    show bodyPost Tryz.prog Tryz.f118 (Rt Q) .ret _ _
    exact post_tmps (ts := [2, 3]) (.inr rfl) rfl h
  · refine wp_seq ?_
    refine L_region ?_
    refine L_mv ?_
    refine L_u (N_cl Tryz.func142 rfl nn142 (fun w Q h => s142 _ w Q h) h) ?_
    intro v w h
    refine L_u (P_nt h) ?_
    intro v w h
    refine L_as ?_
    refine L_nil ?_
    refine E_n ?_
    refine C_cnd h (fun h => ?_) (fun h => ?_)
    · refine wp_seq ?_
      refine L_region ?_
      refine L_as ?_
      refine L_as ?_
      refine L_nil ?_
      refine E_n ?_
      refine C_ret ?_
      show bodyPost Tryz.prog Tryz.f118 (Rt Q) .ret _ _
      exact post_tmps (ts := [2, 3]) (.inr rfl) rfl h
    · refine C_skip ?_
      refine B_n ?_
      refine E_n ?_
      refine wp_seq ?_
      refine L_region ?_
      refine L_mv ?_
      refine L_u (P_lnl is22 h) ?_
      intro v w h
      refine L_u (P_cv ai3 in5 h) ?_
      intro v w h
      refine L_u (N_bsl h) ?_
      intro v w h
      refine L_as ?_
      refine L_nil ?_
      refine E_n ?_
      refine wp_seq ?_
      refine wp_seq ?_
      refine L_region ?_
      refine L_mv ?_
      refine L_u (P_lnl is22 h) ?_
      intro v w h
      refine L_mv ?_
      refine L_nil ?_
      refine E_n ?_
      refine C_join (fun (k : Value → M) (ρ : Nat → Value) => k (ρ 4)) h (fun j1 J1 h => ?_) (fun ρ w h => ?_)
      · refine C_blk ?_
        refine C_lo (fun (l : Value → Value → Value → Value → M) (ρ : Nat → Value) => l (ρ 4) (ρ 19) (ρ 20) (ρ 21)) h (fun ρ w h => h) (fun nx self2 L2 ρ w h => ?_)
        unfold f118_b2 at h
        refine wp_seq ?_
        refine L_region ?_
        refine L_u (P_lt h) ?_
        intro v w h
        refine L_nil ?_
        refine E_n ?_
        refine wp_seq ?_
        refine C_cnd h (fun h => ?_) (fun h => ?_)
        · refine C_skip ?_
          refine E_n ?_
          refine wp_seq ?_
          refine C_blk ?_
          refine wp_seq ?_
          refine L_region ?_
          refine L_u (P_ia se22 h) ?_
          intro v w h
          refine L_u (P_ld sc3 h) ?_
          intro v w h
          refine L_as ?_
          refine L_nil ?_
          refine E_n ?_
          refine L_region ?_
          refine L_mv ?_
          refine L_mv ?_
          refine L_u (P_cv ai3 in185 h) ?_
          intro v w h
          refine L_u (N_cl Tryz.func147 rfl nn147 (fun w Q h => s147 _ _ _ w Q h) h) ?_
          intro v w h
          refine L_as ?_
          refine L_nil ?_
          refine B_n ?_
          refine E_n ?_
          refine L_region ?_
          refine L_u (P_ad h) ?_
          intro v w h
          refine L_mv ?_
          refine L_nil ?_
          refine E_n ?_
          exact L2 _ _ h
        · refine C_exit ?_
          refine E_x ?_
          refine E_x ?_
          refine B_x ?_
          exact J1 _ _ h
      · unfold f118_j1 at h
        refine E_n ?_
        refine wp_seq ?_
        refine L_region ?_
        refine L_mv ?_
        refine L_u (N_cl Tryz.func148 rfl nn148 (fun w Q h => s148 _ w Q h) h) ?_
        intro v w h
        refine L_as ?_
        refine L_as ?_
        refine L_nil ?_
        refine E_n ?_
        refine C_ret ?_
        show bodyPost Tryz.prog Tryz.f118 (Rt Q) .ret _ _
        exact post_tmps (ts := [2, 3]) (.inr rfl) rfl h

/- (*factotum/pager.Pager).steps -/
def f91_b2 (j1 : Value → Value → Value → Value → M) (self2 : Value → Value → Value → Value → Value → Value → Value → M) (t0_1 t5 t6 t7 t13 t14_1 t15 : Value) : M :=
  lt .i64 t15 t14_1 fun t16 =>
  cnd t16 (
    ia 2 t13 t15 fun t18 =>
    ldn 2 t18 fun t19 =>
    al 3 #[(.int .i64 0)] fun t8 =>
    al 48 #[(.int .i64 0), (.string ⟨#[]⟩)] fun t9 =>
    st t8 t15 <|
    stn 2 t9 t19 <|
    fa 0 t9 fun t21 =>
    ld t21 fun t22 =>
    sm Tryz.prog (Instr.buildSlice 22 1 #[(0, t22)]) fun t23 =>
    sm Tryz.prog (Builtin.append_ #[22, 22] 22 #[t5, t23]) fun t24 =>
    dr <|
    idv t6 fun t25 =>
    idv t0_1 fun t26 =>
    idv (.func (.func 116) #[] #[t8]) fun t27 =>
    idv t0_1 fun t28 =>
    nc t28 fun t29 =>
    fa 1 t29 fun t30 =>
    ld t30 fun t31 =>
    fa 0 t9 fun t32 =>
    ld t32 fun t33 =>
    ia 1 t31 t33 fun t34 =>
    ld t34 fun t35 =>
    cl (f112 t26 t27 t35) fun t36 =>
    sm Tryz.prog (Builtin.append_ #[138, 138] 138 #[t25, t36]) fun t37 =>
    idv t37 fun t6_1 =>
    idv (.func (.func 117) #[] #[t9]) fun t40 =>
    fa 1 t9 fun t41 =>
    ld t41 fun t42 =>
    cl (f112 t0_1 t40 t42) fun t43 =>
    sm Tryz.prog (Builtin.append_ #[138, 138] 138 #[t7, t43]) fun t44 =>
    ad .i64 t15 (.int .i64 1) fun t45 =>
    self2 t0_1 t24 t6_1 t44 t13 t14_1 t45
    ) (
    j1 t0_1 t5 t6 t7
    )
def f91_j3 (t0_3 t12_2 : Value) : M :=
  cl (f115 t0_3 (.bool false)) fun t80 =>
  sm Tryz.prog (Builtin.append_ #[138, 138] 138 #[t12_2, t80]) fun t81 =>
  rt t81
def f91_j1 (t0_2 t5_1 t6_2 t7_1 : Value) : M :=
  cl (f118 t5_1) fun t48 =>
  ex 0 t48 fun t49 =>
  ex 1 t48 fun t50 =>
  cl (f119 t0_2 (.int .i64 1) t49) fun t53 =>
  sm Tryz.prog (Instr.buildSlice 138 1 #[(0, t53)]) fun t54 =>
  sm Tryz.prog (Builtin.append_ #[138, 138] 138 #[t54, t6_2]) fun t56 =>
  nc t0_2 fun t59 =>
  fa 0 t59 fun t60 =>
  ld t60 fun t61 =>
  idv (.func (.func 114) #[t61] #[]) fun t62 =>
  sm Tryz.prog (Instr.buildSlice 138 1 #[(0, t62)]) fun t63 =>
  sm Tryz.prog (Builtin.append_ #[138, 138] 138 #[t56, t63]) fun t64 =>
  cl (f115 t0_2 (.bool true)) fun t66 =>
  sm Tryz.prog (Builtin.append_ #[138, 138] 138 #[t64, t66]) fun t67 =>
  jn (fun (j3 : Value → Value → M) =>
    dr <|
    idv t67 fun t68 =>
    idv t7_1 fun t69 =>
    idv t0_2 fun t71 =>
    nc t71 fun t72 =>
    fa 0 t72 fun t73 =>
    ld t73 fun t74 =>
    idv (.func (.func 114) #[t74] #[]) fun t75 =>
    amb (
      sm Tryz.prog (Builtin.append_ #[138, 138] 138 #[t68, t69]) fun t70 =>
      kp (Kld t73 t74) <|
      sm Tryz.prog (Instr.buildSlice 138 1 #[(0, t75)]) fun t76_1 =>
      sm Tryz.prog (Builtin.append_ #[138, 138] 138 #[t70, t76_1]) fun t77 =>
      idv t77 fun t12 =>
      j3 t0_2 t12
      ) (
      sm Tryz.prog (Instr.buildSlice 138 1 #[(0, t75)]) fun t76 =>
      sm Tryz.prog (Builtin.append_ #[138, 138] 138 #[t68, t69]) fun t70_1 =>
      kp (Kld t73 t74) <|
      sm Tryz.prog (Builtin.append_ #[138, 138] 138 #[t70_1, t76]) fun t77_1 =>
      idv t77_1 fun t12_1 =>
      j3 t0_2 t12_1
      )
    ) (f91_j3)
def f91 (t0 t1 : Value) : M :=
  lnl t1 fun t14 =>
  jn (fun (j1 : Value → Value → Value → Value → M) =>
    lo (fun _ _ _ _ _ _ _ => bot) (f91_b2 j1) (fun l => l t0 (.slice none 0 0) (.slice none 0 0) (.slice none 0 0) t1 t14 (.int .i64 0))
    ) (f91_j1)
theorem s91 (t0 t1 : Value) (w : World) (Q : Value → World → Prop) (h : f91 t0 t1 w Q) : Calls Tryz.prog 91 #[t0, t1] w (Rt Q) := by
  refine calls_of (l := [t0, t1]) Tryz.func91 rfl Tryz.ntmps91 (Nat.le_of_ble_eq_true rfl) ?_
  unfold f91 at h
  refine wp_seq ?_
  refine L_region ?_
  refine L_as ?_
  refine L_nil ?_
  refine E_n ?_
  refine wp_seq ?_
  refine L_region ?_
  refine L_as ?_
  refine L_nil ?_
  refine E_n ?_
  refine wp_seq ?_
  refine L_region ?_
  refine L_as ?_
  refine L_as ?_
  refine L_nil ?_
  refine E_n ?_
  refine wp_seq ?_
  refine wp_seq ?_
  refine L_region ?_
  refine L_mv ?_
  refine L_u (P_lnl is49 h) ?_
  intro v w h
  refine L_mv ?_
  refine L_nil ?_
  refine E_n ?_
  refine C_join (fun (k : Value → Value → Value → Value → M) (ρ : Nat → Value) => k (ρ 0) (ρ 5) (ρ 6) (ρ 7)) h (fun j1 J1 h => ?_) (fun ρ w h => ?_)
  · refine C_blk ?_
    refine C_lo (fun (l : Value → Value → Value → Value → Value → Value → Value → M) (ρ : Nat → Value) => l (ρ 0) (ρ 5) (ρ 6) (ρ 7) (ρ 13) (ρ 14) (ρ 15)) h (fun ρ w h => h) (fun nx self2 L2 ρ w h => ?_)
    unfold f91_b2 at h
    refine wp_seq ?_
    refine L_region ?_
    refine L_u (P_lt h) ?_
    intro v w h
    refine L_nil ?_
    refine E_n ?_
    refine wp_seq ?_
    refine C_cnd h (fun h => ?_) (fun h => ?_)
    · refine C_skip ?_
      refine E_n ?_
      refine wp_seq ?_
      refine C_blk ?_
      refine wp_seq ?_
      refine L_region ?_
      refine L_mv ?_
      refine L_u (P_ia se49 h) ?_
      intro v w h
      refine L_u (P_ldn ag48 h) ?_
      intro v w h
      refine L_u (P_al ze3 rfl h) ?_
      intro v w h
      refine L_u (P_al ze48 rfl h) ?_
      intro v w h
      refine L_u (P_st on3 h) ?_
      intro w h
      refine L_u (P_stn ag48 h) ?_
      intro w h
      refine L_nil ?_
      refine E_n ?_
      refine wp_seq ?_
      refine L_region ?_
      refine L_mv ?_
      refine L_u (P_fa fo48_0 h) ?_
      intro v w h
      refine L_u (P_ld sc3 h) ?_
      intro v w h
      refine L_u (N_bsl h) ?_
      intro v w h
      refine L_u (N_bi rfl h) ?_
      intro v w h
      refine L_as ?_
      refine L_nil ?_
      refine E_n ?_
      refine wp_seq ?_
      refine D_region (by decide +kernel) 14 rfl ?_
      replace h := dr_e h
      refine G_p 0 rfl (by decide +kernel) (Y_mv h) ?_
      intro v h
      refine G_p 1 rfl (by decide +kernel) (Y_mv h) ?_
      intro v h
      refine G_p 2 rfl (by decide +kernel) (Y_nmf h) ?_
      intro v h
      refine G_p 3 rfl (by decide +kernel) (Y_mv h) ?_
      intro v h
      refine G_p 4 rfl (by decide +kernel) (Y_nc h) ?_
      intro v h
      refine G_p 5 rfl (by decide +kernel) (Y_fa fo133_1 h) ?_
      intro v h
      refine G_r _ 6 rfl (by decide +kernel) (R_ld sc100 h) ?_
      intro v h
      refine G_p 7 rfl (by decide +kernel) (Y_fa fo48_0 h) ?_
      intro v h
      refine G_r _ 8 rfl (by decide +kernel) (R_ld sc3 h) ?_
      intro v h
      refine G_p 9 rfl (by decide +kernel) (Y_ia se100 h) ?_
      intro v h
      refine G_r _ 10 rfl (by decide +kernel) (R_ld sc9 h) ?_
      intro v h
      refine G_e 11 rfl (by decide +kernel) (N_cl Tryz.func112 rfl nn112 (fun w Q h => s112 _ _ _ w Q h) h ?_)
      intro v w h
      refine ⟨keepF_dep [10] (by decide +kernel) rfl (keepF_dep [10, 9, 8] (by decide +kernel) rfl (keepF_dep [10, 9, 6] (by decide +kernel) rfl keepF_nil)), ?_⟩
      refine G_e 12 rfl (by decide +kernel) (N_bi rfl h ?_)
      intro v w h
      refine ⟨keepF_dep [11, 10] (by decide +kernel) rfl (keepF_dep [11, 10, 9, 8] (by decide +kernel) rfl (keepF_dep [11, 10, 9, 6] (by decide +kernel) rfl keepF_nil)), ?_⟩
      refine G_p 13 rfl (by decide +kernel) (Y_as h) ?_
      intro v h
      refine G_done (by decide +kernel) ?_
      refine E_n ?_
      refine L_region ?_
      refine L_mv ?_
      refine L_mv ?_
      refine L_u (N_mf h) ?_
      intro v w h
      refine L_u (P_fa fo48_1 h) ?_
      intro v w h
      refine L_u (P_ld sc9 h) ?_
      intro v w h
      refine L_u (N_cl Tryz.func112 rfl nn112 (fun w Q h => s112 _ _ _ w Q h) h) ?_
      intro v w h
      refine L_u (N_bi rfl h) ?_
      intro v w h
      refine L_as ?_
      refine L_nil ?_
      refine B_n ?_
      refine E_n ?_
      refine L_region ?_
      refine L_u (P_ad h) ?_
      intro v w h
      refine L_mv ?_
      refine L_nil ?_
      refine E_n ?_
      exact L2 _ _ h
    · refine C_exit ?_
      refine E_x ?_
      refine E_x ?_
      refine B_x ?_
      exact J1 _ _ h
  · unfold f91_j1 at h
    refine E_n ?_
    refine wp_seq ?_
    refine L_region ?_
    refine L_mv ?_
    refine L_u (N_cl Tryz.func118 rfl nn118 (fun w Q h => s118 _ w Q h) h) ?_
    intro v w h
    refine L_mv ?_
    refine L_u (P_ex h) ?_
    intro v w h
    refine L_u (P_ex h) ?_
    intro v w h
    refine L_as ?_
    refine L_as ?_
    refine L_nil ?_
    refine E_n ?_
    refine wp_seq ?_
    refine L_region ?_
    refine L_mv ?_
    refine L_mv ?_
    refine L_u (N_cl Tryz.func119 rfl nn119 (fun w Q h => s119 _ _ _ w Q h) h) ?_
    intro v w h
    refine L_u (N_bsl h) ?_
    intro v w h
    refine L_mv ?_
    refine L_u (N_bi rfl h) ?_
    intro v w h
    refine L_as ?_
    refine L_nil ?_
    refine E_n ?_
    refine wp_seq ?_
    refine L_region ?_
    refine L_mv ?_
    refine L_mv ?_
    refine L_u (P_nc h) ?_
    intro v w h
    refine L_u (P_fa fo133_0 h) ?_
    intro v w h
    refine L_u (P_ld sc63 h) ?_
    intro v w h
    refine L_u (N_mf h) ?_
    intro v w h
    refine L_u (N_bsl h) ?_
    intro v w h
    refine L_u (N_bi rfl h) ?_
    intro v w h
    refine L_mv ?_
    refine L_u (N_cl Tryz.func115 rfl nn115 (fun w Q h => s115 _ _ w Q h) h) ?_
    intro v w h
    refine L_u (N_bi rfl h) ?_
    intro v w h
    refine L_as ?_
    refine L_nil ?_
    refine E_n ?_
    refine wp_seq ?_
    refine C_join (fun (k : Value → Value → M) (ρ : Nat → Value) => k (ρ 0) (ρ 12)) h (fun j3 J3 h => ?_) (fun ρ w h => ?_)
    · refine D_region (by decide +kernel) 11 rfl ?_
      replace h := dr_e h
      refine G_p 0 rfl (by decide +kernel) (Y_mv h) ?_
      intro v h
      refine G_p 1 rfl (by decide +kernel) (Y_mv h) ?_
      intro v h
      refine G_p 3 rfl (by decide +kernel) (Y_mv h) ?_
      intro v h
      refine G_p 4 rfl (by decide +kernel) (Y_nc h) ?_
      intro v h
      refine G_p 5 rfl (by decide +kernel) (Y_fa fo133_0 h) ?_
      intro v h
      refine G_r _ 6 rfl (by decide +kernel) (R_ld sc63 h) ?_
      intro v h
      refine G_p 7 rfl (by decide +kernel) (Y_nmf h) ?_
      intro v h
      refine G_two (i := 2) (j := 8) (by decide +kernel) (G_op rfl (N_bi rfl (amb_1 h) ?_)) (G_op rfl (N_bsl (amb_2 h) ?_))
      · intro v w h
        refine ⟨keepF_cons (kp_1 h) keepF_nil, ?_⟩
        replace h := (kp_2 h)
        refine G_e 8 rfl (by decide +kernel) (N_bsl h ?_)
        intro v w h
        refine ⟨keepF_dep [7, 6] (by decide +kernel) rfl keepF_nil, ?_⟩
        refine G_e 9 rfl (by decide +kernel) (N_bi rfl h ?_)
        intro v w h
        refine ⟨keepF_dep [8, 7, 6] (by decide +kernel) rfl keepF_nil, ?_⟩
        refine G_p 10 rfl (by decide +kernel) (Y_as h) ?_
        intro v h
        refine G_done (by decide +kernel) ?_
        exact J3 _ _ h
      · intro v w h
        refine ⟨keepF_dep [7, 6] (by decide +kernel) rfl keepF_nil, ?_⟩
        refine G_e 2 rfl (by decide +kernel) (N_bi rfl h ?_)
        intro v w h
        refine ⟨keepF_cons (kp_1 h) keepF_nil, ?_⟩
        replace h := (kp_2 h)
        refine G_e 9 rfl (by decide +kernel) (N_bi rfl h ?_)
        intro v w h
        refine ⟨keepF_dep [8, 7, 6] (by decide +kernel) rfl keepF_nil, ?_⟩
        refine G_p 10 rfl (by decide +kernel) (Y_as h) ?_
        intro v h
        refine G_done (by decide +kernel) ?_
        exact J3 _ _ h
    · unfold f91_j3 at h
      refine E_n ?_
      refine wp_seq ?_
      refine L_region ?_
      refine L_mv ?_
      refine L_mv ?_
      refine L_u (N_cl Tryz.func115 rfl nn115 (fun w Q h => s115 _ _ w Q h) h) ?_
      intro v w h
      refine L_u (N_bi rfl h) ?_
      intro v w h
      refine L_as ?_
      refine L_nil ?_
      refine E_n ?_
      refine C_ret ?_
      show bodyPost Tryz.prog Tryz.f91 (Rt Q) .ret _ _
      exact post_tmps (ts := [4]) (.inr rfl) rfl h

/- (*factotum/pager.Pager).Commit -/
def f44_b2 (j1 : Value → M) (self2 : Value → Value → Value → Value → M) (t0_1 t32 t33_1 t34 : Value) : M :=
  lt .i64 t34 t33_1 fun t35 =>
  cnd t35 (
    ia 2 t32 t34 fun t36 =>
    ldn 2 t36 fun t37 =>
    al 48 #[(.int .i64 0), (.string ⟨#[]⟩)] fun t8 =>
    stn 2 t8 t37 <|
    dr <|
    idv t0_1 fun t38 =>
    nc t38 fun t39 =>
    fa 1 t39 fun t40 =>
    ld t40 fun t41 =>
    fa 0 t8 fun t42 =>
    ld t42 fun t43 =>
    fa 1 t8 fun t44 =>
    ld t44 fun t45 =>
    ia 1 t41 t43 fun t46 =>
    st t46 t45 <|
    ad .i64 t34 (.int .i64 1) fun t47 =>
    self2 t0_1 t32 t33_1 t47
    ) (
    j1 t0_1
    )
def f44_j1 (t0_2 : Value) : M :=
  nc t0_2 fun t49 =>
  fa 3 t49 fun t50 =>
  ld t50 fun t51 =>
  ad .i64 t51 (.int .i64 1) fun t52 =>
  nc t0_2 fun t53 =>
  fa 3 t53 fun t54 =>
  st t54 t52 <|
  rt (.int .i64 0)
def f44 (t0 t1 : Value) : M :=
  smr Tryz.prog (do eqGuard .eql 40 (.tmp 9) (.const (.pointer none)) t0 (.pointer none); binOp .eql 40 t0 (.pointer none)) fun t10 =>
  cnd t10 (
    rt (.int .i64 1)
    ) (
    cl (f89 t0 t1) fun t13 =>
    nei .i64 t13 (.int .i64 0) fun t15 =>
    gd t15 false (idv t1) fun t17 =>
    gd t15 false (lnl t17) fun t18 =>
    gd t15 false (eqi .i64 t18 (.int .i64 0)) fun t19 =>
    pk t15 (.bool true) t19 fun t20 =>
    cnd t20 (
      rt t13
      ) (
      cl (f91 t0 t1) fun t24 =>
      cl (f90 t24) fun t25 =>
      nei .i64 t25 (.int .i64 0) fun t27 =>
      cnd t27 (
        nc t0 fun t29 =>
        fa 2 t29 fun t30 =>
        st t30 (.bool true) <|
        rt t25
        ) (
        lnl t1 fun t33 =>
        jn (fun (j1 : Value → M) =>
          lo (fun _ _ _ _ => bot) (f44_b2 j1) (fun l => l t0 t1 t33 (.int .i64 0))
          ) (f44_j1)
        )
      )
    )
theorem s44 (t0 t1 : Value) (w : World) (Q : Value → World → Prop) (h : f44 t0 t1 w Q) : Calls Tryz.prog 44 #[t0, t1] w (Rt Q) := by
  refine calls_of (l := [t0, t1]) Tryz.func44 rfl Tryz.ntmps44 (Nat.le_of_ble_eq_true rfl) ?_
  unfold f44 at h
  refine wp_seq ?_
  refine L_region ?_
  refine L_as ?_
  refine L_nil ?_
  refine E_n ?_
  refine wp_seq ?_
  refine wp_seq ?_
  refine L_region ?_
  refine L_mv ?_
  refine L_u (P_smr rfl h) ?_
  intro v w h
  refine L_nil ?_
  refine E_n ?_
  refine C_cnd h (fun h => ?_) (fun h => ?_)
  · refine wp_seq ?_
    refine L_region ?_
    refine L_as ?_
    refine L_nil ?_
    refine E_n ?_
    refine C_ret ?_
    show bodyPost Tryz.prog Tryz.f44 (Rt Q) .ret _ _
    exact post_tmps (ts := [4]) (.inr rfl) rfl h
  · refine C_skip ?_
    refine E_n ?_
    refine wp_seq ?_
    refine wp_seq ?_
    refine L_region ?_
    refine L_mv ?_
    refine L_mv ?_
    refine L_u (N_cl Tryz.func89 rfl nn89 (fun w Q h => s89 _ _ w Q h) h) ?_
    intro v w h
    refine L_as ?_
    refine L_nil ?_
    refine E_n ?_
    refine wp_seq ?_
    refine L_region ?_
    refine L_mv ?_
    refine L_u (P_nei h) ?_
    intro v w h
    refine L_mv ?_
    refine L_g (t := 16) h rfl rfl (fun c h => P_mv h c) ?_
    intro v w h
    refine L_g (t := 16) h rfl rfl (fun c h => P_lnl is49 h c) ?_
    intro v w h
    refine L_g (t := 16) h rfl rfl (fun c h => P_eqi h c) ?_
    intro v w h
    refine L_u (P_pk h) ?_
    intro v w h
    refine L_nil ?_
    refine E_n ?_
    refine C_cnd h (fun h => ?_) (fun h => ?_)
    · refine wp_seq ?_
      refine L_region ?_
      refine L_mv ?_
      refine L_as ?_
      refine L_nil ?_
      refine E_n ?_
      refine C_ret ?_
      show bodyPost Tryz.prog Tryz.f44 (Rt Q) .ret _ _
      exact post_tmps (ts := [4]) (.inr rfl) rfl h
    · refine C_skip ?_
      refine E_n ?_
      refine wp_seq ?_
      refine wp_seq ?_
      refine L_region ?_
      refine L_mv ?_
      refine L_mv ?_
      refine L_u (N_cl Tryz.func91 rfl nn91 (fun w Q h => s91 _ _ w Q h) h) ?_
      intro v w h
      refine L_u (N_cl Tryz.func90 rfl nn90 (fun w Q h => s90 _ w Q h) h) ?_
      intro v w h
      refine L_as ?_
      refine L_nil ?_
      refine E_n ?_
      refine wp_seq ?_
      refine L_region ?_
      refine L_mv ?_
      refine L_u (P_nei h) ?_
      intro v w h
      refine L_nil ?_
      refine E_n ?_
      refine C_cnd h (fun h => ?_) (fun h => ?_)
      · refine wp_seq ?_
        refine L_region ?_
        refine L_mv ?_
        refine L_u (P_nc h) ?_
        intro v w h
        refine L_u (P_fa fo133_2 h) ?_
        intro v w h
        refine L_u (P_st on4 h) ?_
        intro w h
        refine L_nil ?_
        refine E_n ?_
        refine wp_seq ?_
        refine L_region ?_
        refine L_mv ?_
        refine L_as ?_
        refine L_nil ?_
        refine E_n ?_
        refine C_ret ?_
        show bodyPost Tryz.prog Tryz.f44 (Rt Q) .ret _ _
        exact post_tmps (ts := [4]) (.inr rfl) rfl h
      · refine C_skip ?_
        refine E_n ?_
        refine wp_seq ?_
        refine wp_seq ?_
        refine L_region ?_
        refine L_mv ?_
        refine L_u (P_lnl is49 h) ?_
        intro v w h
        refine L_mv ?_
        refine L_nil ?_
        refine E_n ?_
        refine C_join (fun (k : Value → M) (ρ : Nat → Value) => k (ρ 0)) h (fun j1 J1 h => ?_) (fun ρ w h => ?_)
        · refine C_blk ?_
          refine C_lo (fun (l : Value → Value → Value → Value → M) (ρ : Nat → Value) => l (ρ 0) (ρ 32) (ρ 33) (ρ 34)) h (fun ρ w h => h) (fun nx self2 L2 ρ w h => ?_)
          unfold f44_b2 at h
          refine wp_seq ?_
          refine L_region ?_
          refine L_u (P_lt h) ?_
          intro v w h
          refine L_nil ?_
          refine E_n ?_
          refine wp_seq ?_
          refine C_cnd h (fun h => ?_) (fun h => ?_)
          · refine C_skip ?_
            refine E_n ?_
            refine wp_seq ?_
            refine C_blk ?_
            refine wp_seq ?_
            refine L_region ?_
            refine L_u (P_ia se49 h) ?_
            intro v w h
            refine L_u (P_ldn ag48 h) ?_
            intro v w h
            refine L_u (P_al ze48 rfl h) ?_
            intro v w h
            refine L_u (P_stn ag48 h) ?_
            intro w h
            refine L_nil ?_
            refine E_n ?_
            refine D_region (by decide +kernel) 10 rfl ?_
            replace h := dr_e h
            refine G_p 0 rfl (by decide +kernel) (Y_mv h) ?_
            intro v h
            refine G_p 1 rfl (by decide +kernel) (Y_nc h) ?_
            intro v h
            refine G_p 2 rfl (by decide +kernel) (Y_fa fo133_1 h) ?_
            intro v h
            refine G_r _ 3 rfl (by decide +kernel) (R_ld sc100 h) ?_
            intro v h
            refine G_p 4 rfl (by decide +kernel) (Y_fa fo48_0 h) ?_
            intro v h
            refine G_r _ 5 rfl (by decide +kernel) (R_ld sc3 h) ?_
            intro v h
            refine G_p 6 rfl (by decide +kernel) (Y_fa fo48_1 h) ?_
            intro v h
            refine G_r _ 7 rfl (by decide +kernel) (R_ld sc9 h) ?_
            intro v h
            refine G_p 8 rfl (by decide +kernel) (Y_ia se100 h) ?_
            intro v h
            refine G_e 9 rfl (by decide +kernel) (P_st on9 h ?_)
            intro w h
            refine ⟨keepF_dep [7] (by decide +kernel) rfl (keepF_dep [5] (by decide +kernel) rfl (keepF_dep [3] (by decide +kernel) rfl keepF_nil)), ?_⟩
            refine G_done (by decide +kernel) ?_
            refine B_n ?_
            refine E_n ?_
            refine L_region ?_
            refine L_u (P_ad h) ?_
            intro v w h
            refine L_mv ?_
            refine L_nil ?_
            refine E_n ?_
            exact L2 _ _ h
          · refine C_exit ?_
            refine E_x ?_
            refine E_x ?_
            refine B_x ?_
            exact J1 _ _ h
        · unfold f44_j1 at h
          refine E_n ?_
          refine wp_seq ?_
          refine L_region ?_
          refine L_mv ?_
          refine L_u (P_nc h) ?_
          intro v w h
          refine L_u (P_fa fo133_3 h) ?_
          intro v w h
          refine L_u (P_ld sc3 h) ?_
          intro v w h
          refine L_u (P_ad h) ?_
          intro v w h
          refine L_u (P_nc h) ?_
          intro v w h
          refine L_u (P_fa fo133_3 h) ?_
          intro v w h
          refine L_u (P_st on3 h) ?_
          intro w h
          refine L_nil ?_
          refine E_n ?_
          refine wp_seq ?_
          refine L_region ?_
          refine L_as ?_
          refine L_nil ?_
          refine E_n ?_
          refine C_ret ?_
          show bodyPost Tryz.prog Tryz.f44 (Rt Q) .ret _ _
          exact post_tmps (ts := [4]) (.inr rfl) rfl h

/- (*factotum/cache.Cache).Commit -/
def f25_j3 (self2 : Value → Value → Value → Value → M) (t0_2 t21_1 t22_2 t23_1 : Value) : M :=
  ad .i64 t23_1 (.int .i64 1) fun t44 =>
  self2 t0_2 t21_1 t22_2 t44
def f25_b2 (j1 : M) (self2 : Value → Value → Value → Value → M) (t0_1 t21 t22_1 t23 : Value) : M :=
  lt .i64 t23 t22_1 fun t24 =>
  cnd t24 (
    ia 2 t21 t23 fun t25 =>
    ldn 2 t25 fun t26 =>
    al 48 #[(.int .i64 0), (.string ⟨#[]⟩)] fun t7 =>
    stn 2 t7 t26 <|
    dr <|
    idv t0_1 fun t28 =>
    nc t28 fun t29 =>
    fa 7 t29 fun t30 =>
    ld t30 fun t31 =>
    fa 0 t7 fun t32 =>
    ld t32 fun t33 =>
    smr Tryz.prog (Instr.lookup 115 t31 t33 true) fun t34 =>
    idv t34 fun t27 =>
    ex 0 t27 fun t35 =>
    ex 1 t27 fun t36 =>
    idv t35 fun t8 =>
    idv t36 fun t9 =>
    jn (fun (j3 : Value → Value → Value → Value → M) =>
      cnd t9 (
        fa 1 t7 fun t39 =>
        ld t39 fun t40 =>
        nc t8 fun t41 =>
        fa 2 t41 fun t42 =>
        fa 1 t42 fun t43 =>
        st t43 t40 <|
        j3 t0_1 t21 t22_1 t23
        ) (
        j3 t0_1 t21 t22_1 t23
        )
      ) (f25_j3 self2)
    ) (
    j1
    )
def f25_j1 : M :=
  rt (.int .i64 0)
def f25 (t0 t1 : Value) : M :=
  smr Tryz.prog (do eqGuard .eql 29 (.tmp 10) (.const (.pointer none)) t0 (.pointer none); binOp .eql 29 t0 (.pointer none)) fun t11 =>
  cnd t11 (
    rt (.int .i64 1)
    ) (
    nc t0 fun t13 =>
    fa 0 t13 fun t14 =>
    ld t14 fun t15 =>
    cl (f44 t15 t1) fun t17 =>
    nei .i64 t17 (.int .i64 0) fun t19 =>
    cnd t19 (
      rt t17
      ) (
      lnl t1 fun t22 =>
      jn (fun (j1 : M) =>
        lo (fun _ _ _ _ => bot) (f25_b2 j1) (fun l => l t0 t1 t22 (.int .i64 0))
        ) (f25_j1)
      )
    )
theorem s25 (t0 t1 : Value) (w : World) (Q : Value → World → Prop) (h : f25 t0 t1 w Q) : Calls Tryz.prog 25 #[t0, t1] w (Rt Q) := by
  refine calls_of (l := [t0, t1]) Tryz.func25 rfl Tryz.ntmps25 (Nat.le_of_ble_eq_true rfl) ?_
  unfold f25 at h
  refine wp_seq ?_
  refine L_region ?_
  refine L_as ?_
  refine L_nil ?_
  refine E_n ?_
  refine wp_seq ?_
  refine wp_seq ?_
  refine L_region ?_
  refine L_mv ?_
  refine L_u (P_smr rfl h) ?_
  intro v w h
  refine L_nil ?_
  refine E_n ?_
  refine C_cnd h (fun h => ?_) (fun h => ?_)
  · refine wp_seq ?_
    refine L_region ?_
    refine L_as ?_
    refine L_nil ?_
    refine E_n ?_
    refine C_ret ?_
    show bodyPost Tryz.prog Tryz.f25 (Rt Q) .ret _ _
    exact post_tmps (ts := [4]) (.inr rfl) rfl h
  · refine C_skip ?_
    refine E_n ?_
    refine wp_seq ?_
    refine wp_seq ?_
    refine L_region ?_
    refine L_mv ?_
    refine L_u (P_nc h) ?_
    intro v w h
    refine L_u (P_fa fo124_0 h) ?_
    intro v w h
    refine L_u (P_ld sc40 h) ?_
    intro v w h
    refine L_mv ?_
    refine L_u (N_cl Tryz.func44 rfl nn44 (fun w Q h => s44 _ _ w Q h) h) ?_
    intro v w h
    refine L_as ?_
    refine L_nil ?_
    refine E_n ?_
    refine wp_seq ?_
    refine L_region ?_
    refine L_mv ?_
    refine L_u (P_nei h) ?_
    intro v w h
    refine L_nil ?_
    refine E_n ?_
    refine C_cnd h (fun h => ?_) (fun h => ?_)
    · refine wp_seq ?_
      refine L_region ?_
      refine L_mv ?_
      refine L_as ?_
      refine L_nil ?_
      refine E_n ?_
      refine C_ret ?_
      show bodyPost Tryz.prog Tryz.f25 (Rt Q) .ret _ _
      exact post_tmps (ts := [4]) (.inr rfl) rfl h
    · refine C_skip ?_
      refine E_n ?_
      refine wp_seq ?_
      refine wp_seq ?_
      refine L_region ?_
      refine L_mv ?_
      refine L_u (P_lnl is49 h) ?_
      intro v w h
      refine L_mv ?_
      refine L_nil ?_
      refine E_n ?_
      refine C_join (fun (k : M) (ρ : Nat → Value) => k) h (fun j1 J1 h => ?_) (fun ρ w h => ?_)
      · refine C_blk ?_
        refine C_lo (fun (l : Value → Value → Value → Value → M) (ρ : Nat → Value) => l (ρ 0) (ρ 21) (ρ 22) (ρ 23)) h (fun ρ w h => h) (fun nx self2 L2 ρ w h => ?_)
        unfold f25_b2 at h
        refine wp_seq ?_
        refine L_region ?_
        refine L_u (P_lt h) ?_
        intro v w h
        refine L_nil ?_
        refine E_n ?_
        refine wp_seq ?_
        refine C_cnd h (fun h => ?_) (fun h => ?_)
        · refine C_skip ?_
          refine E_n ?_
          refine wp_seq ?_
          refine C_blk ?_
          refine wp_seq ?_
          refine L_region ?_
          refine L_u (P_ia se49 h) ?_
          intro v w h
          refine L_u (P_ldn ag48 h) ?_
          intro v w h
          refine L_u (P_al ze48 rfl h) ?_
          intro v w h
          refine L_u (P_stn ag48 h) ?_
          intro w h
          refine L_nil ?_
          refine E_n ?_
          refine wp_seq ?_
          refine D_region (by decide +kernel) 12 rfl ?_
          replace h := dr_e h
          refine G_p 0 rfl (by decide +kernel) (Y_mv h) ?_
          intro v h
          refine G_p 1 rfl (by decide +kernel) (Y_nc h) ?_
          intro v h
          refine G_p 2 rfl (by decide +kernel) (Y_fa fo124_3 h) ?_
          intro v h
          refine G_r _ 3 rfl (by decide +kernel) (R_ld sc115 h) ?_
          intro v h
          refine G_p 4 rfl (by decide +kernel) (Y_fa fo48_0 h) ?_
          intro v h
          refine G_r _ 5 rfl (by decide +kernel) (R_ld sc3 h) ?_
          intro v h
          refine G_r _ 6 rfl (by decide +kernel) (R_sm rfl h) ?_
          intro v h
          refine G_p 7 rfl (by decide +kernel) (Y_mv h) ?_
          intro v h
          refine G_p 8 rfl (by decide +kernel) (Y_ex h) ?_
          intro v h
          refine G_p 9 rfl (by decide +kernel) (Y_ex h) ?_
          intro v h
          refine G_p 10 rfl (by decide +kernel) (Y_as h) ?_
          intro v h
          refine G_p 11 rfl (by decide +kernel) (Y_as h) ?_
          intro v h
          refine G_done (by decide +kernel) ?_
          refine E_n ?_
          refine wp_seq ?_
          refine L_region ?_
          refine L_mv ?_
          refine L_nil ?_
          refine E_n ?_
          refine C_join (fun (k : Value → Value → Value → Value → M) (ρ : Nat → Value) => k (ρ 0) (ρ 21) (ρ 22) (ρ 23)) h (fun j3 J3 h => ?_) (fun ρ w h => ?_)
          · refine C_cnd h (fun h => ?_) (fun h => ?_)
            · refine L_region ?_
              refine L_mv ?_
              refine L_u (P_fa fo48_1 h) ?_
              intro v w h
              refine L_u (P_ld sc9 h) ?_
              intro v w h
              refine L_u (P_nc h) ?_
              intro v w h
              refine L_u (P_fa fo120_2 h) ?_
              intro v w h
              refine L_u (P_fa fo118_1 h) ?_
              intro v w h
              refine L_u (P_st on9 h) ?_
              intro w h
              refine L_nil ?_
              exact J3 _ _ h
            · refine C_skip ?_
              exact J3 _ _ h
          · unfold f25_j3 at h
            refine B_n ?_
            refine E_n ?_
            refine L_region ?_
            refine L_u (P_ad h) ?_
            intro v w h
            refine L_mv ?_
            refine L_nil ?_
            refine E_n ?_
            exact L2 _ _ h
        · refine C_exit ?_
          refine E_x ?_
          refine E_x ?_
          refine B_x ?_
          exact J1 _ _ h
      · unfold f25_j1 at h
        refine E_n ?_
        refine wp_seq ?_
        refine L_region ?_
        refine L_as ?_
        refine L_nil ?_
        refine E_n ?_
        refine C_ret ?_
        show bodyPost Tryz.prog Tryz.f25 (Rt Q) .ret _ _
        exact post_tmps (ts := [4]) (.inr rfl) rfl h

/- factotum/factotumlaw07.fill -/
def f26_b2 (j1 : Value → M) (self2 : Value → Value → Value → M) (t0_1 t3 t4 : Value) : M :=
  lnl t3 fun t8 =>
  lt .i64 t4 t8 fun t9 =>
  cnd t9 (
    ia 1 t3 t4 fun t15 =>
    st t15 t0_1 <|
    ad .i64 t4 (.int .i64 1) fun t11 =>
    self2 t0_1 t3 t11
    ) (
    j1 t3
    )
def f26_j1 (t3_1 : Value) : M :=
  smr Tryz.prog (convert 42 9 t3_1) fun t17 =>
  rt t17
def f26 (t0 : Value) : M :=
  sm Tryz.prog (Instr.makeSlice 42 (.int .i64 256) (.int .i64 256)) fun t5 =>
  jn (fun (j1 : Value → M) =>
    lo (fun _ _ _ => bot) (f26_b2 j1) (fun l => l t0 t5 (.int .i64 0))
    ) (f26_j1)
theorem s26 (t0 : Value) (w : World) (Q : Value → World → Prop) (h : f26 t0 w Q) : Calls Tryz.prog 26 #[t0] w (Rt Q) := by
  refine calls_of (l := [t0]) Tryz.func26 rfl Tryz.ntmps26 (Nat.le_of_ble_eq_true rfl) ?_
  unfold f26 at h
  refine wp_seq ?_
  refine L_region ?_
  refine L_as ?_
  refine L_nil ?_
  refine E_n ?_
  refine wp_seq ?_
  refine L_region ?_
  refine L_u (P_sm rfl h) ?_
  intro v w h
  refine L_as ?_
  refine L_nil ?_
  refine E_n ?_
  refine wp_seq ?_
  refine wp_seq ?_
  refine L_region ?_
  refine L_as ?_
  refine L_nil ?_
  refine E_n ?_
  refine C_join (fun (k : Value → M) (ρ : Nat → Value) => k (ρ 3)) h (fun j1 J1 h => ?_) (fun ρ w h => ?_)
  · refine C_blk ?_
    refine C_lo (fun (l : Value → Value → Value → M) (ρ : Nat → Value) => l (ρ 0) (ρ 3) (ρ 4)) h (fun ρ w h => h) (fun nx self2 L2 ρ w h => ?_)
    unfold f26_b2 at h
    refine wp_seq ?_
    refine wp_seq ?_
    refine L_region ?_
    refine L_mv ?_
    refine L_mv ?_
    refine L_u (P_lnl is42 h) ?_
    intro v w h
    refine L_u (P_lt h) ?_
    intro v w h
    refine L_nil ?_
    refine E_n ?_
    refine C_cnd h (fun h => ?_) (fun h => ?_)
    · refine C_skip ?_
      refine E_n ?_
      refine wp_seq ?_
      refine C_blk ?_
      refine L_region ?_
      refine L_mv ?_
      refine L_mv ?_
      refine L_mv ?_
      refine L_u (P_ia se42 h) ?_
      intro v w h
      refine L_u (P_st on5 h) ?_
      intro w h
      refine L_nil ?_
      refine B_n ?_
      refine E_n ?_
      refine L_region ?_
      refine L_mv ?_
      refine L_u (P_ad h) ?_
      intro v w h
      refine L_as ?_
      refine L_nil ?_
      refine E_n ?_
      exact L2 _ _ h
    · refine C_exit ?_
      refine E_x ?_
      refine E_x ?_
      refine B_x ?_
      exact J1 _ _ h
  · unfold f26_j1 at h
    refine E_n ?_
    refine wp_seq ?_
    refine L_region ?_
    refine L_mv ?_
    refine L_u (P_smr rfl h) ?_
    intro v w h
    refine L_as ?_
    refine L_nil ?_
    refine E_n ?_
    refine C_ret ?_
    show bodyPost Tryz.prog Tryz.f26 (Rt Q) .ret _ _
    exact post_tmps (ts := [2]) (.inr rfl) rfl h

/- factotum/factotumlaw07.CacheReads -/
def f4_j4 (j3 : Value → Value → Value → Value → Value → M) (t0_2 t2_2 t7_1 t8_1 t9_1 t11 t12_1 : Value) : M :=
  eqi .i64 t12_1 (.int .i64 0) fun t68 =>
  neb t68 t11 fun t70 =>
  gd t70 false (idv t11) fun t72 =>
  gd t70 false (nt t72) fun t73 =>
  gd t70 false (idv t73) fun t74 =>
  gd t74 true (idv t12_1) fun t75 =>
  gd t74 true (nei .i64 t75 (.int .i64 7)) fun t76 =>
  gd t70 false (pk t74 t76 (.bool false)) fun t77 =>
  pk t70 (.bool true) t77 fun t78 =>
  cnd t78 (
    rt (.bool false)
    ) (
    j3 t0_2 t2_2 t7_1 t8_1 t9_1
    )
def f4_j3 (self2 : Value → Value → Value → Value → Value → M) (t0_3 t2_3 t7_2 t8_2 t9_2 : Value) : M :=
  ad .i64 t9_2 (.int .i64 1) fun t35 =>
  self2 t0_3 t2_3 t7_2 t8_2 t35
def f4_b2 (j1 : Value → Value → M) (self2 : Value → Value → Value → Value → Value → M) (t0_1 t2_1 t7 t8 t9 : Value) : M :=
  lnl t2_1 fun t32 =>
  lt .i64 t9 t32 fun t33 =>
  cnd t33 (
    jn (fun (j3 : Value → Value → Value → Value → Value → M) =>
      ia 3 t2_1 t9 fun t38 =>
      ldn 3 t38 fun t39 =>
      al 44 #[(.int .i64 0), (.int .u8 0), (.bool false)] fun t10 =>
      stn 3 t10 t39 <|
      fa 0 t10 fun t40 =>
      ld t40 fun t41 =>
      ge .i64 t41 (.int .i64 0) fun t42 =>
      gd t42 true (fa 0 t10) fun t44 =>
      gd t42 true (ld t44) fun t45 =>
      gd t42 true (idv t0_1) fun t46 =>
      gd t42 true (lt .i64 t45 t46) fun t47 =>
      pk t42 t47 (.bool false) fun t48 =>
      fa 2 t10 fun t49 =>
      ld t49 fun t50 =>
      cnd t50 (
        dr <|
        idv t7 fun t51 =>
        fa 0 t10 fun t52 =>
        ld t52 fun t53 =>
        fa 1 t10 fun t54 =>
        ld t54 fun t55 =>
        cl (f26 t55) fun t56 =>
        kp (Kld t52 t53) <|
        smr Tryz.prog (Instr.build 48 #[(0, t53), (1, t56)]) fun t57 =>
        sm Tryz.prog (Instr.buildSlice 49 1 #[(0, t57)]) fun t58 =>
        cl (f25 t51 t58) fun t59 =>
        idv t59 fun t12 =>
        jn (fun (j4 : Value → Value → Value → Value → Value → Value → Value → M) =>
          cnd t48 (
            fa 0 t10 fun t62 =>
            ld t62 fun t63 =>
            fa 1 t10 fun t64 =>
            ld t64 fun t65 =>
            ia 1 t8 t63 fun t66 =>
            st t66 t65 <|
            j4 t0_1 t2_1 t7 t8 t9 t48 t12
            ) (
            j4 t0_1 t2_1 t7 t8 t9 t48 t12
            )
          ) (f4_j4 j3)
        ) (
        fa 0 t10 fun t81 =>
        ld t81 fun t82 =>
        cl (f27 t7 t82) fun t83 =>
        ex 0 t83 fun t84 =>
        ex 1 t83 fun t85 =>
        gd t48 true (idv t85) fun t88 =>
        gd t48 true (nei .i64 t88 (.int .i64 0)) fun t89 =>
        gd t48 true (idv t89) fun t90 =>
        gd t90 false (idv t84) fun t91 =>
        gd t90 false (idv t8) fun t92 =>
        gd t90 false (fa 0 t10) fun t93 =>
        gd t90 false (ld t93) fun t94 =>
        gd t90 false (ia 1 t92 t94) fun t95 =>
        gd t90 false (ld t95) fun t96 =>
        gd t90 false (cl (f26 t96)) fun t97 =>
        gd t90 false (nes t91 t97) fun t98 =>
        gd t48 true (pk t90 (.bool true) t98) fun t99 =>
        pk t48 t99 (.bool false) fun t100 =>
        gd t100 false (idv t48) fun t102 =>
        gd t100 false (nt t102) fun t103 =>
        gd t100 false (idv t103) fun t104 =>
        gd t104 true (idv t85) fun t105 =>
        gd t104 true (nei .i64 t105 (.int .i64 7)) fun t106 =>
        gd t104 true (idv t106) fun t107 =>
        gd t107 false (idv t84) fun t108 =>
        gd t107 false (nes t108 (.string ⟨#[]⟩)) fun t109 =>
        gd t104 true (pk t107 (.bool true) t109) fun t110 =>
        gd t100 false (pk t104 t110 (.bool false)) fun t111 =>
        pk t100 (.bool true) t111 fun t112 =>
        cnd t112 (
          rt (.bool false)
          ) (
          j3 t0_1 t2_1 t7 t8 t9
          )
        )
      ) (f4_j3 self2)
    ) (
    j1 t0_1 t7
    )
def f4_j1 (t0_4 t7_3 : Value) : M :=
  cl (f28 t7_3) fun t114 =>
  eqi .i64 t114 t0_4 fun t116 =>
  rt t116
def f4 (t0 t1 t2 : Value) : M :=
  cl (f21) fun t15 =>
  nt t15 fun t16 =>
  cnd t16 (
    rt (.bool false)
    ) (
    cv .u64 t0 fun t18 =>
    re .u64 t18 (.int .u64 30) fun t19 =>
    cv .i64 t19 fun t20 =>
    ad .i64 (.int .i64 1) t20 fun t21 =>
    cl (f22 t2) fun t23 =>
    cl (f24 t21) fun t25 =>
    cl (f23 t25 t1) fun t27 =>
    sm Tryz.prog (Instr.makeSlice 42 t21 t21) fun t29 =>
    jn (fun (j1 : Value → Value → M) =>
      lo (fun _ _ _ _ _ => bot) (f4_b2 j1) (fun l => l t21 t23 t27 t29 (.int .i64 0))
      ) (f4_j1)
    )
theorem s4 (t0 t1 t2 : Value) (w : World) (Q : Value → World → Prop) (h : f4 t0 t1 t2 w Q) : Calls Tryz.prog 4 #[t0, t1, t2] w (Rt Q) := by
  refine calls_of (l := [t0, t1, t2]) Tryz.func4 rfl Tryz.ntmps4 (Nat.le_of_ble_eq_true rfl) ?_
  unfold f4 at h
  refine wp_seq ?_
  refine L_region ?_
  refine L_as ?_
  refine L_nil ?_
  refine E_n ?_
  refine wp_seq ?_
  refine wp_seq ?_
  refine L_region ?_
  refine L_u (N_cl Tryz.func21 rfl nn21 (fun w Q h => s21 w Q h) h) ?_
  intro v w h
  refine L_u (P_nt h) ?_
  intro v w h
  refine L_nil ?_
  refine E_n ?_
  refine C_cnd h (fun h => ?_) (fun h => ?_)
  · refine wp_seq ?_
    refine L_region ?_
    refine L_as ?_
    refine L_nil ?_
    refine E_n ?_
    refine C_ret ?_
    show bodyPost Tryz.prog Tryz.f4 (Rt Q) .ret _ _
    exact post_tmps (ts := [6]) (.inr rfl) rfl h
  · refine C_skip ?_
    refine E_n ?_
    refine wp_seq ?_
    refine L_region ?_
    refine L_mv ?_
    refine L_u (P_cv ai3 in37 h) ?_
    intro v w h
    refine L_u (P_re h) ?_
    intro v w h
    refine L_u (P_cv ai37 in3 h) ?_
    intro v w h
    refine L_u (P_ad h) ?_
    intro v w h
    refine L_as ?_
    refine L_nil ?_
    refine E_n ?_
    refine wp_seq ?_
    refine L_region ?_
    refine L_mv ?_
    refine L_u (N_cl Tryz.func22 rfl nn22 (fun w Q h => s22 _ w Q h) h) ?_
    intro v w h
    refine L_as ?_
    refine L_nil ?_
    refine E_n ?_
    refine wp_seq ?_
    refine L_region ?_
    refine L_mv ?_
    refine L_u (N_cl Tryz.func24 rfl nn24 (fun w Q h => s24 _ w Q h) h) ?_
    intro v w h
    refine L_mv ?_
    refine L_u (N_cl Tryz.func23 rfl nn23 (fun w Q h => s23 _ _ w Q h) h) ?_
    intro v w h
    refine L_as ?_
    refine L_nil ?_
    refine E_n ?_
    refine wp_seq ?_
    refine L_region ?_
    refine L_mv ?_
    refine L_u (P_sm rfl h) ?_
    intro v w h
    refine L_as ?_
    refine L_nil ?_
    refine E_n ?_
    refine wp_seq ?_
    refine wp_seq ?_
    refine L_region ?_
    refine L_as ?_
    refine L_nil ?_
    refine E_n ?_
    refine C_join (fun (k : Value → Value → M) (ρ : Nat → Value) => k (ρ 0) (ρ 7)) h (fun j1 J1 h => ?_) (fun ρ w h => ?_)
    · refine C_blk ?_
      refine C_lo (fun (l : Value → Value → Value → Value → Value → M) (ρ : Nat → Value) => l (ρ 0) (ρ 2) (ρ 7) (ρ 8) (ρ 9)) h (fun ρ w h => h) (fun nx self2 L2 ρ w h => ?_)
      unfold f4_b2 at h
      refine wp_seq ?_
      refine wp_seq ?_
      refine L_region ?_
      refine L_mv ?_
      refine L_mv ?_
      refine L_u (P_lnl is36 h) ?_
      intro v w h
      refine L_u (P_lt h) ?_
      intro v w h
      refine L_nil ?_
      refine E_n ?_
      refine C_cnd h (fun h => ?_) (fun h => ?_)
      · refine C_skip ?_
        refine E_n ?_
        refine wp_seq ?_
        refine C_join (fun (k : Value → Value → Value → Value → Value → M) (ρ : Nat → Value) => k (ρ 0) (ρ 2) (ρ 7) (ρ 8) (ρ 9)) h (fun j3 J3 h => ?_) (fun ρ w h => ?_)
        · refine C_blk ?_
          refine wp_seq ?_
          refine L_region ?_
          refine L_mv ?_
          refine L_mv ?_
          refine L_u (P_ia se36 h) ?_
          intro v w h
          refine L_u (P_ldn ag44 h) ?_
          intro v w h
          refine L_u (P_al ze44 rfl h) ?_
          intro v w h
          refine L_u (P_stn ag44 h) ?_
          intro w h
          refine L_nil ?_
          refine E_n ?_
          refine wp_seq ?_
          refine L_region ?_
          refine L_u (P_fa fo44_0 h) ?_
          intro v w h
          refine L_u (P_ld sc3 h) ?_
          intro v w h
          refine L_u (P_ge h) ?_
          intro v w h
          refine L_mv ?_
          refine L_g (t := 43) h rfl rfl (fun c h => P_fa fo44_0 h c) ?_
          intro v w h
          refine L_g (t := 43) h rfl rfl (fun c h => P_ld sc3 h c) ?_
          intro v w h
          refine L_g (t := 43) h rfl rfl (fun c h => P_mv h c) ?_
          intro v w h
          refine L_g (t := 43) h rfl rfl (fun c h => P_lt h c) ?_
          intro v w h
          refine L_u (P_pk h) ?_
          intro v w h
          refine L_as ?_
          refine L_nil ?_
          refine E_n ?_
          refine wp_seq ?_
          refine wp_seq ?_
          refine L_region ?_
          refine L_u (P_fa fo44_2 h) ?_
          intro v w h
          refine L_u (P_ld sc4 h) ?_
          intro v w h
          refine L_nil ?_
          refine E_n ?_
          refine C_cnd h (fun h => ?_) (fun h => ?_)
          · refine wp_seq ?_
            refine D_region (by decide +kernel) 10 rfl ?_
            replace h := dr_e h
            refine G_p 0 rfl (by decide +kernel) (Y_mv h) ?_
            intro v h
            refine G_p 1 rfl (by decide +kernel) (Y_fa fo44_0 h) ?_
            intro v h
            refine G_r _ 2 rfl (by decide +kernel) (R_ld sc3 h) ?_
            intro v h
            refine G_p 3 rfl (by decide +kernel) (Y_fa fo44_1 h) ?_
            intro v h
            refine G_r _ 4 rfl (by decide +kernel) (R_ld sc5 h) ?_
            intro v h
            refine G_e 5 rfl (by decide +kernel) (N_cl Tryz.func26 rfl nn26 (fun w Q h => s26 _ w Q h) h ?_)
            intro v w h
            refine ⟨keepF_dep [4] (by decide +kernel) rfl (keepF_cons (kp_1 h) keepF_nil), ?_⟩
            replace h := (kp_2 h)
            refine G_r _ 6 rfl (by decide +kernel) (R_bld h) ?_
            intro v h
            refine G_e 7 rfl (by decide +kernel) (N_bsl h ?_)
            intro v w h
            refine ⟨keepF_dep [6] (by decide +kernel) rfl (keepF_dep [6, 5, 4] (by decide +kernel) rfl (keepF_dep [6, 2] (by decide +kernel) rfl keepF_nil)), ?_⟩
            refine G_e 8 rfl (by decide +kernel) (N_cl Tryz.func25 rfl nn25 (fun w Q h => s25 _ _ w Q h) h ?_)
            intro v w h
            refine ⟨keepF_dep [7, 6] (by decide +kernel) rfl (keepF_dep [5, 4] (by decide +kernel) rfl (keepF_dep [7, 6, 2] (by decide +kernel) rfl keepF_nil)), ?_⟩
            refine G_p 9 rfl (by decide +kernel) (Y_as h) ?_
            intro v h
            refine G_done (by decide +kernel) ?_
            refine E_n ?_
            refine wp_seq ?_
            refine wp_seq ?_
            refine L_region ?_
            refine L_mv ?_
            refine L_nil ?_
            refine E_n ?_
            refine C_join (fun (k : Value → Value → Value → Value → Value → Value → Value → M) (ρ : Nat → Value) => k (ρ 0) (ρ 2) (ρ 7) (ρ 8) (ρ 9) (ρ 11) (ρ 12)) h (fun j4 J4 h => ?_) (fun ρ w h => ?_)
            · refine C_cnd h (fun h => ?_) (fun h => ?_)
              · refine L_region ?_
                refine L_mv ?_
                refine L_u (P_fa fo44_0 h) ?_
                intro v w h
                refine L_u (P_ld sc3 h) ?_
                intro v w h
                refine L_u (P_fa fo44_1 h) ?_
                intro v w h
                refine L_u (P_ld sc5 h) ?_
                intro v w h
                refine L_u (P_ia se42 h) ?_
                intro v w h
                refine L_u (P_st on5 h) ?_
                intro w h
                refine L_nil ?_
                exact J4 _ _ h
              · refine C_skip ?_
                exact J4 _ _ h
            · unfold f4_j4 at h
              refine E_n ?_
              refine wp_seq ?_
              refine wp_seq ?_
              refine L_region ?_
              refine L_mv ?_
              refine L_u (P_eqi h) ?_
              intro v w h
              refine L_mv ?_
              refine L_u (P_neb bo4 h) ?_
              intro v w h
              refine L_mv ?_
              refine L_g (t := 71) h rfl rfl (fun c h => P_mv h c) ?_
              intro v w h
              refine L_g (t := 71) h rfl rfl (fun c h => P_nt h c) ?_
              intro v w h
              refine L_g (t := 71) h rfl rfl (fun c h => P_mv h c) ?_
              intro v w h
              refine L_g (t := 74) h rfl rfl (fun c h => P_mv h c) ?_
              intro v w h
              refine L_g (t := 74) h rfl rfl (fun c h => P_nei h c) ?_
              intro v w h
              refine L_g (t := 71) h rfl rfl (fun c h => P_pk h c) ?_
              intro v w h
              refine L_u (P_pk h) ?_
              intro v w h
              refine L_nil ?_
              refine E_n ?_
              refine C_cnd h (fun h => ?_) (fun h => ?_)
              · refine wp_seq ?_
                refine L_region ?_
                refine L_as ?_
                refine L_nil ?_
                refine E_n ?_
                refine C_ret ?_
                show bodyPost Tryz.prog Tryz.f4 (Rt Q) .ret _ _
                exact post_tmps (ts := [6]) (.inr rfl) rfl h
              · refine C_skip ?_
                refine E_n ?_
                refine C_exit ?_
                refine E_x ?_
                refine B_x ?_
                exact J3 _ _ h
          · refine C_skip ?_
            refine E_n ?_
            refine wp_seq ?_
            refine L_region ?_
            refine L_mv ?_
            refine L_u (P_fa fo44_0 h) ?_
            intro v w h
            refine L_u (P_ld sc3 h) ?_
            intro v w h
            refine L_u (N_cl Tryz.func27 rfl nn27 (fun w Q h => s27 _ _ w Q h) h) ?_
            intro v w h
            refine L_mv ?_
            refine L_u (P_ex h) ?_
            intro v w h
            refine L_u (P_ex h) ?_
            intro v w h
            refine L_as ?_
            refine L_as ?_
            refine L_nil ?_
            refine E_n ?_
            refine wp_seq ?_
            refine L_region ?_
            refine L_mv ?_
            refine L_mv ?_
            refine L_g (t := 87) h rfl rfl (fun c h => P_mv h c) ?_
            intro v w h
            refine L_g (t := 87) h rfl rfl (fun c h => P_nei h c) ?_
            intro v w h
            refine L_g (t := 87) h rfl rfl (fun c h => P_mv h c) ?_
            intro v w h
            refine L_g (t := 90) h rfl rfl (fun c h => P_mv h c) ?_
            intro v w h
            refine L_g (t := 90) h rfl rfl (fun c h => P_mv h c) ?_
            intro v w h
            refine L_g (t := 90) h rfl rfl (fun c h => P_fa fo44_0 h c) ?_
            intro v w h
            refine L_g (t := 90) h rfl rfl (fun c h => P_ld sc3 h c) ?_
            intro v w h
            refine L_g (t := 90) h rfl rfl (fun c h => P_ia se42 h c) ?_
            intro v w h
            refine L_g (t := 90) h rfl rfl (fun c h => P_ld sc5 h c) ?_
            intro v w h
            refine L_g (t := 90) h rfl rfl (fun c h => N_cl Tryz.func26 rfl nn26 (fun w Q h => s26 _ w Q h) h c) ?_
            intro v w h
            refine L_g (t := 90) h rfl rfl (fun c h => P_nes h c) ?_
            intro v w h
            refine L_g (t := 87) h rfl rfl (fun c h => P_pk h c) ?_
            intro v w h
            refine L_u (P_pk h) ?_
            intro v w h
            refine L_mv ?_
            refine L_g (t := 101) h rfl rfl (fun c h => P_mv h c) ?_
            intro v w h
            refine L_g (t := 101) h rfl rfl (fun c h => P_nt h c) ?_
            intro v w h
            refine L_g (t := 101) h rfl rfl (fun c h => P_mv h c) ?_
            intro v w h
            refine L_g (t := 104) h rfl rfl (fun c h => P_mv h c) ?_
            intro v w h
            refine L_g (t := 104) h rfl rfl (fun c h => P_nei h c) ?_
            intro v w h
            refine L_g (t := 104) h rfl rfl (fun c h => P_mv h c) ?_
            intro v w h
            refine L_g (t := 107) h rfl rfl (fun c h => P_mv h c) ?_
            intro v w h
            refine L_g (t := 107) h rfl rfl (fun c h => P_nes h c) ?_
            intro v w h
            refine L_g (t := 104) h rfl rfl (fun c h => P_pk h c) ?_
            intro v w h
            refine L_g (t := 101) h rfl rfl (fun c h => P_pk h c) ?_
            intro v w h
            refine L_u (P_pk h) ?_
            intro v w h
            refine L_nil ?_
            refine E_n ?_
            refine C_cnd h (fun h => ?_) (fun h => ?_)
            · refine wp_seq ?_
              refine L_region ?_
              refine L_as ?_
              refine L_nil ?_
              refine E_n ?_
              refine C_ret ?_
              show bodyPost Tryz.prog Tryz.f4 (Rt Q) .ret _ _
              exact post_tmps (ts := [6]) (.inr rfl) rfl h
            · refine C_skip ?_
              refine B_n ?_
              exact J3 _ _ h
        · unfold f4_j3 at h
          refine E_n ?_
          refine L_region ?_
          refine L_mv ?_
          refine L_u (P_ad h) ?_
          intro v w h
          refine L_as ?_
          refine L_nil ?_
          refine E_n ?_
          exact L2 _ _ h
      · refine C_exit ?_
        refine E_x ?_
        refine E_x ?_
        refine B_x ?_
        exact J1 _ _ h
    · unfold f4_j1 at h
      refine E_n ?_
      refine wp_seq ?_
      refine L_region ?_
      refine L_mv ?_
      refine L_u (N_cl Tryz.func28 rfl nn28 (fun w Q h => s28 _ w Q h) h) ?_
      intro v w h
      refine L_mv ?_
      refine L_u (P_eqi h) ?_
      intro v w h
      refine L_as ?_
      refine L_nil ?_
      refine E_n ?_
      refine C_ret ?_
      show bodyPost Tryz.prog Tryz.f4 (Rt Q) .ret _ _
      exact post_tmps (ts := [6]) (.inr rfl) rfl h

/- factotum/factotumref07.New -/
def f29 (t0 : Value) : M :=
  mxm t0 (.int .i64 0) fun t4 =>
  mnm t4 (.int .i64 64) fun t5 =>
  smr Tryz.prog (Instr.build 57 #[(0, t5)]) fun t6 =>
  bx 57 t6 fun t7 =>
  rt t7
theorem s29 (t0 : Value) (w : World) (Q : Value → World → Prop) (h : f29 t0 w Q) : Calls Tryz.prog 29 #[t0] w (Rt Q) := by
  refine calls_of (l := [t0]) Tryz.func29 rfl Tryz.ntmps29 (Nat.le_of_ble_eq_true rfl) ?_
  unfold f29 at h
  refine wp_seq ?_
  refine L_region ?_
  refine L_as ?_
  refine L_nil ?_
  refine E_n ?_
  refine wp_seq ?_
  refine L_region ?_
  refine L_mv ?_
  refine L_u (P_mxm (t := 0) h) ?_
  intro v w h
  refine L_u (P_mnm (t := 0) h) ?_
  intro v w h
  refine L_u (N_bld h) ?_
  intro v w h
  refine L_u (P_bx h) ?_
  intro v w h
  refine L_as ?_
  refine L_nil ?_
  refine E_n ?_
  refine C_ret ?_
  show bodyPost Tryz.prog Tryz.f29 (Rt Q) .ret _ _
  exact post_tmps (ts := [2]) (.inr rfl) rfl h

/- (*factotum/factotumref07.Cache).Use -/
def f30_j3 (self2 : Value → Value → Value → Value → M) (t0_2 t1_2 t4_1 t5_1 : Value) : M :=
  ad .i64 t5_1 (.int .i64 1) fun t14 =>
  self2 t0_2 t1_2 t4_1 t14
def f30_b2 (j1 : Value → Value → Value → M) (self2 : Value → Value → Value → Value → M) (t0_1 t1_1 t4 t5 : Value) : M :=
  nc t0_1 fun t8 =>
  fa 1 t8 fun t9 =>
  ld t9 fun t10 =>
  lnl t10 fun t11 =>
  lt .i64 t5 t11 fun t12 =>
  cnd t12 (
    nc t0_1 fun t16 =>
    fa 1 t16 fun t17 =>
    ld t17 fun t18 =>
    ia 1 t18 t5 fun t20 =>
    ld t20 fun t21 =>
    eqi .i64 t21 t1_1 fun t23 =>
    jn (fun (j3 : Value → Value → Value → Value → M) =>
      cnd t23 (
        j3 t0_1 t1_1 t5 t5
        ) (
        j3 t0_1 t1_1 t4 t5
        )
      ) (f30_j3 self2)
    ) (
    j1 t0_1 t1_1 t4
    )
def f30_j4 (t0_4 t1_4 : Value) : M :=
  sm Tryz.prog (Instr.buildSlice 22 1 #[(0, t1_4)]) fun t61 =>
  nc t0_4 fun t63 =>
  fa 1 t63 fun t64 =>
  ld t64 fun t65 =>
  sm Tryz.prog (Builtin.append_ #[22, 22] 22 #[t61, t65]) fun t66 =>
  nc t0_4 fun t67 =>
  fa 1 t67 fun t68 =>
  st t68 t66 <|
  dr <|
  idv t0_4 fun t69 =>
  nc t69 fun t70 =>
  fa 1 t70 fun t71 =>
  ld t71 fun t72 =>
  lnl t72 fun t73 =>
  idv t0_4 fun t74 =>
  nc t74 fun t75 =>
  fa 0 t75 fun t76 =>
  ld t76 fun t77 =>
  gt .i64 t73 t77 fun t78 =>
  cnd t78 (
    dr <|
    idv t0_4 fun t79 =>
    idv t0_4 fun t80 =>
    nc t80 fun t81 =>
    fa 1 t81 fun t82 =>
    ld t82 fun t83 =>
    idv t0_4 fun t84 =>
    nc t84 fun t85 =>
    fa 0 t85 fun t86 =>
    ld t86 fun t87 =>
    sll 1 t83 none (some t87) fun t88 =>
    nc t79 fun t89 =>
    fa 1 t89 fun t90 =>
    st t90 t88 <|
    rt (.tuple #[])
    ) (
    rt (.tuple #[])
    )
def f30_j1 (t0_3 t1_3 t4_2 : Value) : M :=
  ge .i64 t4_2 (.int .i64 0) fun t26 =>
  jn (fun (j4 : Value → Value → M) =>
    cnd t26 (
      nc t0_3 fun t28 =>
      fa 2 t28 fun t29 =>
      ld t29 fun t30 =>
      ad .i64 t30 (.int .i64 1) fun t31 =>
      nc t0_3 fun t32 =>
      fa 2 t32 fun t33 =>
      st t33 t31 <|
      dr <|
      idv t0_3 fun t34 =>
      idv t0_3 fun t35 =>
      nc t35 fun t36 =>
      fa 1 t36 fun t37 =>
      ld t37 fun t38 =>
      idv t4_2 fun t39 =>
      sll 1 t38 none (some t39) fun t40 =>
      idv t0_3 fun t42 =>
      nc t42 fun t43 =>
      fa 1 t43 fun t44 =>
      ld t44 fun t45 =>
      idv t4_2 fun t46 =>
      ad .i64 t46 (.int .i64 1) fun t47 =>
      sll 1 t45 (some t47) none fun t48 =>
      sm Tryz.prog (Builtin.append_ #[22, 22] 22 #[(.slice none 0 0), t40]) fun t41 =>
      kp (Kld t44 t45) <|
      sm Tryz.prog (Builtin.append_ #[22, 22] 22 #[t41, t48]) fun t49 =>
      nc t34 fun t50 =>
      fa 1 t50 fun t51 =>
      st t51 t49 <|
      j4 t0_3 t1_3
      ) (
      nc t0_3 fun t53 =>
      fa 3 t53 fun t54 =>
      ld t54 fun t55 =>
      ad .i64 t55 (.int .i64 1) fun t56 =>
      nc t0_3 fun t57 =>
      fa 3 t57 fun t58 =>
      st t58 t56 <|
      j4 t0_3 t1_3
      )
    ) (f30_j4)
def f30 (t0 t1 : Value) : M :=
  jn (fun (j1 : Value → Value → Value → M) =>
    lo (fun _ _ _ _ => bot) (f30_b2 j1) (fun l => l t0 t1 (.int .i64 (-1)) (.int .i64 0))
    ) (f30_j1)
theorem s30 (t0 t1 : Value) (w : World) (Q : Value → World → Prop) (h : f30 t0 t1 w Q) : Calls Tryz.prog 30 #[t0, t1] w (Rt Q) := by
  refine calls_of (l := [t0, t1]) Tryz.func30 rfl Tryz.ntmps30 (Nat.le_of_ble_eq_true rfl) ?_
  unfold f30 at h
  refine wp_seq ?_
  refine L_region ?_
  refine L_as ?_
  refine L_nil ?_
  refine E_n ?_
  refine wp_seq ?_
  refine wp_seq ?_
  refine L_region ?_
  refine L_as ?_
  refine L_nil ?_
  refine E_n ?_
  refine C_join (fun (k : Value → Value → Value → M) (ρ : Nat → Value) => k (ρ 0) (ρ 1) (ρ 4)) h (fun j1 J1 h => ?_) (fun ρ w h => ?_)
  · refine C_blk ?_
    refine C_lo (fun (l : Value → Value → Value → Value → M) (ρ : Nat → Value) => l (ρ 0) (ρ 1) (ρ 4) (ρ 5)) h (fun ρ w h => h) (fun nx self2 L2 ρ w h => ?_)
    unfold f30_b2 at h
    refine wp_seq ?_
    refine wp_seq ?_
    refine L_region ?_
    refine L_mv ?_
    refine L_mv ?_
    refine L_u (P_nc h) ?_
    intro v w h
    refine L_u (P_fa fo57_1 h) ?_
    intro v w h
    refine L_u (P_ld sc22 h) ?_
    intro v w h
    refine L_u (P_lnl is22 h) ?_
    intro v w h
    refine L_u (P_lt h) ?_
    intro v w h
    refine L_nil ?_
    refine E_n ?_
    refine C_cnd h (fun h => ?_) (fun h => ?_)
    · refine C_skip ?_
      refine E_n ?_
      refine wp_seq ?_
      refine C_blk ?_
      refine wp_seq ?_
      refine L_region ?_
      refine L_mv ?_
      refine L_u (P_nc h) ?_
      intro v w h
      refine L_u (P_fa fo57_1 h) ?_
      intro v w h
      refine L_u (P_ld sc22 h) ?_
      intro v w h
      refine L_mv ?_
      refine L_u (P_ia se22 h) ?_
      intro v w h
      refine L_u (P_ld sc3 h) ?_
      intro v w h
      refine L_mv ?_
      refine L_u (P_eqi h) ?_
      intro v w h
      refine L_nil ?_
      refine E_n ?_
      refine C_join (fun (k : Value → Value → Value → Value → M) (ρ : Nat → Value) => k (ρ 0) (ρ 1) (ρ 4) (ρ 5)) h (fun j3 J3 h => ?_) (fun ρ w h => ?_)
      · refine C_cnd h (fun h => ?_) (fun h => ?_)
        · refine L_region ?_
          refine L_mv ?_
          refine L_as ?_
          refine L_nil ?_
          exact J3 _ _ h
        · refine C_skip ?_
          exact J3 _ _ h
      · unfold f30_j3 at h
        refine B_n ?_
        refine E_n ?_
        refine L_region ?_
        refine L_mv ?_
        refine L_u (P_ad h) ?_
        intro v w h
        refine L_as ?_
        refine L_nil ?_
        refine E_n ?_
        exact L2 _ _ h
    · refine C_exit ?_
      refine E_x ?_
      refine E_x ?_
      refine B_x ?_
      exact J1 _ _ h
  · unfold f30_j1 at h
    refine E_n ?_
    refine wp_seq ?_
    refine wp_seq ?_
    refine L_region ?_
    refine L_mv ?_
    refine L_u (P_ge h) ?_
    intro v w h
    refine L_nil ?_
    refine E_n ?_
    refine C_join (fun (k : Value → Value → M) (ρ : Nat → Value) => k (ρ 0) (ρ 1)) h (fun j4 J4 h => ?_) (fun ρ w h => ?_)
    · refine C_cnd h (fun h => ?_) (fun h => ?_)
      · refine wp_seq ?_
        refine L_region ?_
        refine L_mv ?_
        refine L_u (P_nc h) ?_
        intro v w h
        refine L_u (P_fa fo57_2 h) ?_
        intro v w h
        refine L_u (P_ld sc3 h) ?_
        intro v w h
        refine L_u (P_ad h) ?_
        intro v w h
        refine L_u (P_nc h) ?_
        intro v w h
        refine L_u (P_fa fo57_2 h) ?_
        intro v w h
        refine L_u (P_st on3 h) ?_
        intro w h
        refine L_nil ?_
        refine E_n ?_
        refine D_region (by decide +kernel) 19 rfl ?_
        replace h := dr_e h
        refine G_p 0 rfl (by decide +kernel) (Y_mv h) ?_
        intro v h
        refine G_p 1 rfl (by decide +kernel) (Y_mv h) ?_
        intro v h
        refine G_p 2 rfl (by decide +kernel) (Y_nc h) ?_
        intro v h
        refine G_p 3 rfl (by decide +kernel) (Y_fa fo57_1 h) ?_
        intro v h
        refine G_r _ 4 rfl (by decide +kernel) (R_ld sc22 h) ?_
        intro v h
        refine G_p 5 rfl (by decide +kernel) (Y_mv h) ?_
        intro v h
        refine G_p 6 rfl (by decide +kernel) (Y_sll se22 h) ?_
        intro v h
        refine G_p 8 rfl (by decide +kernel) (Y_mv h) ?_
        intro v h
        refine G_p 9 rfl (by decide +kernel) (Y_nc h) ?_
        intro v h
        refine G_p 10 rfl (by decide +kernel) (Y_fa fo57_1 h) ?_
        intro v h
        refine G_r _ 11 rfl (by decide +kernel) (R_ld sc22 h) ?_
        intro v h
        refine G_p 12 rfl (by decide +kernel) (Y_mv h) ?_
        intro v h
        refine G_p 13 rfl (by decide +kernel) (Y_ad h) ?_
        intro v h
        refine G_p 14 rfl (by decide +kernel) (Y_sll se22 h) ?_
        intro v h
        refine G_e 7 rfl (by decide +kernel) (N_bi rfl h ?_)
        intro v w h
        refine ⟨keepF_cons (kp_1 h) (keepF_dep [6, 4] (by decide +kernel) rfl keepF_nil), ?_⟩
        replace h := (kp_2 h)
        refine G_e 15 rfl (by decide +kernel) (N_bi rfl h ?_)
        intro v w h
        refine ⟨keepF_dep [14, 11] (by decide +kernel) rfl (keepF_dep [7, 6, 4] (by decide +kernel) rfl keepF_nil), ?_⟩
        refine G_p 16 rfl (by decide +kernel) (Y_nc h) ?_
        intro v h
        refine G_p 17 rfl (by decide +kernel) (Y_fa fo57_1 h) ?_
        intro v h
        refine G_e 18 rfl (by decide +kernel) (P_st on22 h ?_)
        intro w h
        refine ⟨keepF_dep [11] (by decide +kernel) rfl (keepF_dep [4] (by decide +kernel) rfl keepF_nil), ?_⟩
        refine G_done (by decide +kernel) ?_
        exact J4 _ _ h
      · refine L_region ?_
        refine L_mv ?_
        refine L_u (P_nc h) ?_
        intro v w h
        refine L_u (P_fa fo57_3 h) ?_
        intro v w h
        refine L_u (P_ld sc3 h) ?_
        intro v w h
        refine L_u (P_ad h) ?_
        intro v w h
        refine L_u (P_nc h) ?_
        intro v w h
        refine L_u (P_fa fo57_3 h) ?_
        intro v w h
        refine L_u (P_st on3 h) ?_
        intro w h
        refine L_nil ?_
        exact J4 _ _ h
    · unfold f30_j4 at h
      refine E_n ?_
      refine wp_seq ?_
      refine L_region ?_
      refine L_mv ?_
      refine L_mv ?_
      refine L_u (N_bsl h) ?_
      intro v w h
      refine L_mv ?_
      refine L_u (P_nc h) ?_
      intro v w h
      refine L_u (P_fa fo57_1 h) ?_
      intro v w h
      refine L_u (P_ld sc22 h) ?_
      intro v w h
      refine L_u (N_bi rfl h) ?_
      intro v w h
      refine L_u (P_nc h) ?_
      intro v w h
      refine L_u (P_fa fo57_1 h) ?_
      intro v w h
      refine L_u (P_st on22 h) ?_
      intro w h
      refine L_nil ?_
      refine E_n ?_
      refine wp_seq ?_
      refine D_region (by decide +kernel) 10 rfl ?_
      replace h := dr_e h
      refine G_p 0 rfl (by decide +kernel) (Y_mv h) ?_
      intro v h
      refine G_p 1 rfl (by decide +kernel) (Y_nc h) ?_
      intro v h
      refine G_p 2 rfl (by decide +kernel) (Y_fa fo57_1 h) ?_
      intro v h
      refine G_r _ 3 rfl (by decide +kernel) (R_ld sc22 h) ?_
      intro v h
      refine G_p 4 rfl (by decide +kernel) (Y_lnl is22 h) ?_
      intro v h
      refine G_p 5 rfl (by decide +kernel) (Y_mv h) ?_
      intro v h
      refine G_p 6 rfl (by decide +kernel) (Y_nc h) ?_
      intro v h
      refine G_p 7 rfl (by decide +kernel) (Y_fa fo57_0 h) ?_
      intro v h
      refine G_r _ 8 rfl (by decide +kernel) (R_ld sc3 h) ?_
      intro v h
      refine G_p 9 rfl (by decide +kernel) (Y_gt h) ?_
      intro v h
      refine G_done (by decide +kernel) ?_
      refine E_n ?_
      refine C_cnd h (fun h => ?_) (fun h => ?_)
      · refine D_region (by decide +kernel) 13 rfl ?_
        replace h := dr_e h
        refine G_p 0 rfl (by decide +kernel) (Y_mv h) ?_
        intro v h
        refine G_p 1 rfl (by decide +kernel) (Y_mv h) ?_
        intro v h
        refine G_p 2 rfl (by decide +kernel) (Y_nc h) ?_
        intro v h
        refine G_p 3 rfl (by decide +kernel) (Y_fa fo57_1 h) ?_
        intro v h
        refine G_r _ 4 rfl (by decide +kernel) (R_ld sc22 h) ?_
        intro v h
        refine G_p 5 rfl (by decide +kernel) (Y_mv h) ?_
        intro v h
        refine G_p 6 rfl (by decide +kernel) (Y_nc h) ?_
        intro v h
        refine G_p 7 rfl (by decide +kernel) (Y_fa fo57_0 h) ?_
        intro v h
        refine G_r _ 8 rfl (by decide +kernel) (R_ld sc3 h) ?_
        intro v h
        refine G_p 9 rfl (by decide +kernel) (Y_sll se22 h) ?_
        intro v h
        refine G_p 10 rfl (by decide +kernel) (Y_nc h) ?_
        intro v h
        refine G_p 11 rfl (by decide +kernel) (Y_fa fo57_1 h) ?_
        intro v h
        refine G_e 12 rfl (by decide +kernel) (P_st on22 h ?_)
        intro w h
        refine ⟨keepF_dep [8] (by decide +kernel) rfl (keepF_dep [4] (by decide +kernel) rfl keepF_nil), ?_⟩
        refine G_done (by decide +kernel) ?_
        show bodyPost Tryz.prog Tryz.f30 (Rt Q) .normal _ _
        exact post_tmps (ts := []) (.inl rfl) rfl h
      · refine C_skip ?_
        show bodyPost Tryz.prog Tryz.f30 (Rt Q) .normal _ _
        exact post_tmps (ts := []) (.inl rfl) rfl h
end Go.Proofs.YtongpnolikkknaaGreatDoor

set_option maxRecDepth 20000
set_option maxHeartbeats 4000000
namespace Go.Proofs.YtongpnolikkknaaGreatDoor
open Sh
attribute [local irreducible] wpL anyG act jn lo gdB amb kp smr nc fa ld ldn st stn ad su mu qu re lt le gt ge eqi nei bws shl shr cat eqs nes lts gts eqb neb nt pk cv al bx ex fld fldn lnl lns ia iaa ixs sls sll sla mif mnm mxm mm asrt sm smu cl cc cf ci cnd gd gdu
/- factotum/factotumlaw07.CacheKeeps -/
def f5_j3 (self2 : Value → Value → Value → Value → M) (t2_2 t7_1 t8_1 t9_1 : Value) : M :=
  dr <|
  idv t7_1 fun t62 =>
  idv t8_1 fun t64 =>
  nc t64 fun t65 =>
  fa 2 t65 fun t66 =>
  ld t66 fun t67 =>
  cl (f31 t62) fun t63 =>
  kp (Kld t66 t67) <|
  nei .i64 t63 t67 fun t68 =>
  idv t68 fun t69 =>
  gd t69 false (idv t7_1) fun t70 =>
  gd t69 false (idv t8_1) fun t72 =>
  gd t69 false (nc t72) fun t73 =>
  gd t69 false (fa 3 t73) fun t74 =>
  gd t69 false (ld t74) fun t75 =>
  gd t69 false (cl (f32 t70)) fun t71 =>
  kp (fun w => gdB t69 false = true → Kld t74 t75 w) <|
  gd t69 false (nei .i64 t71 t75) fun t76 =>
  pk t69 (.bool true) t76 fun t77 =>
  idv t77 fun t78 =>
  gd t78 false (idv t7_1) fun t79 =>
  gd t78 false (idv t8_1) fun t81 =>
  gd t78 false (nc t81) fun t82 =>
  gd t78 false (fa 1 t82) fun t83 =>
  gd t78 false (ld t83) fun t84 =>
  gd t78 false (cl (f34 t79)) fun t80 =>
  kp (fun w => gdB t78 false = true → Kld t83 t84 w) <|
  gd t78 false (cl (f33 t80 t84)) fun t85 =>
  gd t78 false (nt t85) fun t86 =>
  pk t78 (.bool true) t86 fun t87 =>
  cnd t87 (
    rt (.bool false)
    ) (
    ad .i64 t9_1 (.int .i64 1) fun t33 =>
    self2 t2_2 t7_1 t8_1 t33
    )
def f5_b2 (j1 : M) (self2 : Value → Value → Value → Value → M) (t2_1 t7 t8 t9 : Value) : M :=
  lnl t2_1 fun t30 =>
  lt .i64 t9 t30 fun t31 =>
  cnd t31 (
    ia 3 t2_1 t9 fun t36 =>
    ldn 3 t36 fun t37 =>
    al 44 #[(.int .i64 0), (.int .u8 0), (.bool false)] fun t10 =>
    stn 3 t10 t37 <|
    fa 2 t10 fun t38 =>
    ld t38 fun t39 =>
    jn (fun (j3 : Value → Value → Value → Value → M) =>
      cnd t39 (
        dr <|
        idv t7 fun t40 =>
        fa 0 t10 fun t41 =>
        ld t41 fun t42 =>
        fa 1 t10 fun t43 =>
        ld t43 fun t44 =>
        cl (f26 t44) fun t45 =>
        kp (Kld t41 t42) <|
        smr Tryz.prog (Instr.build 48 #[(0, t42), (1, t45)]) fun t46 =>
        sm Tryz.prog (Instr.buildSlice 49 1 #[(0, t46)]) fun t47 =>
        cl (f25 t40 t47) fun t48 =>
        j3 t2_1 t7 t8 t9
        ) (
        fa 0 t10 fun t51 =>
        ld t51 fun t52 =>
        cl (f27 t7 t52) fun t53 =>
        ex 0 t53 fun t54 =>
        ex 1 t53 fun t55 =>
        eqi .i64 t55 (.int .i64 0) fun t57 =>
        cnd t57 (
          fa 0 t10 fun t59 =>
          ld t59 fun t60 =>
          cl (f30 t8 t60) fun t61 =>
          j3 t2_1 t7 t8 t9
          ) (
          j3 t2_1 t7 t8 t9
          )
        )
      ) (f5_j3 self2)
    ) (
    j1
    )
def f5_j1 : M :=
  rt (.bool true)
def f5 (t0 t1 t2 : Value) : M :=
  cl (f21) fun t13 =>
  nt t13 fun t14 =>
  cnd t14 (
    rt (.bool false)
    ) (
    cv .u64 t0 fun t16 =>
    re .u64 t16 (.int .u64 30) fun t17 =>
    cv .i64 t17 fun t18 =>
    ad .i64 (.int .i64 1) t18 fun t19 =>
    cl (f22 t2) fun t21 =>
    cl (f24 t19) fun t23 =>
    cl (f23 t23 t1) fun t25 =>
    cl (f29 t1) fun t27 =>
    jn (fun (j1 : M) =>
      lo (fun _ _ _ _ => bot) (f5_b2 j1) (fun l => l t21 t25 t27 (.int .i64 0))
      ) (f5_j1)
    )
theorem s5 (t0 t1 t2 : Value) (w : World) (Q : Value → World → Prop) (h : f5 t0 t1 t2 w Q) : Calls Tryz.prog 5 #[t0, t1, t2] w (Rt Q) := by
  refine calls_of (l := [t0, t1, t2]) Tryz.func5 rfl Tryz.ntmps5 (Nat.le_of_ble_eq_true rfl) ?_
  unfold f5 at h
  refine wp_seq ?_
  refine L_region ?_
  refine L_as ?_
  refine L_nil ?_
  refine E_n ?_
  refine wp_seq ?_
  refine wp_seq ?_
  refine L_region ?_
  refine L_u (N_cl Tryz.func21 rfl nn21 (fun w Q h => s21 w Q h) h) ?_
  intro v w h
  refine L_u (P_nt h) ?_
  intro v w h
  refine L_nil ?_
  refine E_n ?_
  refine C_cnd h (fun h => ?_) (fun h => ?_)
  · refine wp_seq ?_
    refine L_region ?_
    refine L_as ?_
    refine L_nil ?_
    refine E_n ?_
    refine C_ret ?_
    show bodyPost Tryz.prog Tryz.f5 (Rt Q) .ret _ _
    exact post_tmps (ts := [6]) (.inr rfl) rfl h
  · refine C_skip ?_
    refine E_n ?_
    refine wp_seq ?_
    refine L_region ?_
    refine L_mv ?_
    refine L_u (P_cv ai3 in37 h) ?_
    intro v w h
    refine L_u (P_re h) ?_
    intro v w h
    refine L_u (P_cv ai37 in3 h) ?_
    intro v w h
    refine L_u (P_ad h) ?_
    intro v w h
    refine L_as ?_
    refine L_nil ?_
    refine E_n ?_
    refine wp_seq ?_
    refine L_region ?_
    refine L_mv ?_
    refine L_u (N_cl Tryz.func22 rfl nn22 (fun w Q h => s22 _ w Q h) h) ?_
    intro v w h
    refine L_as ?_
    refine L_nil ?_
    refine E_n ?_
    refine wp_seq ?_
    refine L_region ?_
    refine L_mv ?_
    refine L_u (N_cl Tryz.func24 rfl nn24 (fun w Q h => s24 _ w Q h) h) ?_
    intro v w h
    refine L_mv ?_
    refine L_u (N_cl Tryz.func23 rfl nn23 (fun w Q h => s23 _ _ w Q h) h) ?_
    intro v w h
    refine L_mv ?_
    refine L_u (N_cl Tryz.func29 rfl nn29 (fun w Q h => s29 _ w Q h) h) ?_
    intro v w h
    refine L_as ?_
    refine L_as ?_
    refine L_nil ?_
    refine E_n ?_
    refine wp_seq ?_
    refine wp_seq ?_
    refine L_region ?_
    refine L_as ?_
    refine L_nil ?_
    refine E_n ?_
    refine C_join (fun (k : M) (ρ : Nat → Value) => k) h (fun j1 J1 h => ?_) (fun ρ w h => ?_)
    · refine C_blk ?_
      refine C_lo (fun (l : Value → Value → Value → Value → M) (ρ : Nat → Value) => l (ρ 2) (ρ 7) (ρ 8) (ρ 9)) h (fun ρ w h => h) (fun nx self2 L2 ρ w h => ?_)
      unfold f5_b2 at h
      refine wp_seq ?_
      refine wp_seq ?_
      refine L_region ?_
      refine L_mv ?_
      refine L_mv ?_
      refine L_u (P_lnl is36 h) ?_
      intro v w h
      refine L_u (P_lt h) ?_
      intro v w h
      refine L_nil ?_
      refine E_n ?_
      refine C_cnd h (fun h => ?_) (fun h => ?_)
      · refine C_skip ?_
        refine E_n ?_
        refine wp_seq ?_
        refine C_blk ?_
        refine wp_seq ?_
        refine L_region ?_
        refine L_mv ?_
        refine L_mv ?_
        refine L_u (P_ia se36 h) ?_
        intro v w h
        refine L_u (P_ldn ag44 h) ?_
        intro v w h
        refine L_u (P_al ze44 rfl h) ?_
        intro v w h
        refine L_u (P_stn ag44 h) ?_
        intro w h
        refine L_nil ?_
        refine E_n ?_
        refine wp_seq ?_
        refine wp_seq ?_
        refine L_region ?_
        refine L_u (P_fa fo44_2 h) ?_
        intro v w h
        refine L_u (P_ld sc4 h) ?_
        intro v w h
        refine L_nil ?_
        refine E_n ?_
        refine C_join (fun (k : Value → Value → Value → Value → M) (ρ : Nat → Value) => k (ρ 2) (ρ 7) (ρ 8) (ρ 9)) h (fun j3 J3 h => ?_) (fun ρ w h => ?_)
        · refine C_cnd h (fun h => ?_) (fun h => ?_)
          · refine D_region (by decide +kernel) 9 rfl ?_
            replace h := dr_e h
            refine G_p 0 rfl (by decide +kernel) (Y_mv h) ?_
            intro v h
            refine G_p 1 rfl (by decide +kernel) (Y_fa fo44_0 h) ?_
            intro v h
            refine G_r _ 2 rfl (by decide +kernel) (R_ld sc3 h) ?_
            intro v h
            refine G_p 3 rfl (by decide +kernel) (Y_fa fo44_1 h) ?_
            intro v h
            refine G_r _ 4 rfl (by decide +kernel) (R_ld sc5 h) ?_
            intro v h
            refine G_e 5 rfl (by decide +kernel) (N_cl Tryz.func26 rfl nn26 (fun w Q h => s26 _ w Q h) h ?_)
            intro v w h
            refine ⟨keepF_dep [4] (by decide +kernel) rfl (keepF_cons (kp_1 h) keepF_nil), ?_⟩
            replace h := (kp_2 h)
            refine G_r _ 6 rfl (by decide +kernel) (R_bld h) ?_
            intro v h
            refine G_e 7 rfl (by decide +kernel) (N_bsl h ?_)
            intro v w h
            refine ⟨keepF_dep [6] (by decide +kernel) rfl (keepF_dep [6, 5, 4] (by decide +kernel) rfl (keepF_dep [6, 2] (by decide +kernel) rfl keepF_nil)), ?_⟩
            refine G_e 8 rfl (by decide +kernel) (N_cl Tryz.func25 rfl nn25 (fun w Q h => s25 _ _ w Q h) h ?_)
            intro v w h
            refine ⟨keepF_dep [7, 6] (by decide +kernel) rfl (keepF_dep [5, 4] (by decide +kernel) rfl (keepF_dep [7, 6, 2] (by decide +kernel) rfl keepF_nil)), ?_⟩
            refine G_done (by decide +kernel) ?_
            exact J3 _ _ h
          · refine wp_seq ?_
            refine L_region ?_
            refine L_mv ?_
            refine L_u (P_fa fo44_0 h) ?_
            intro v w h
            refine L_u (P_ld sc3 h) ?_
            intro v w h
            refine L_u (N_cl Tryz.func27 rfl nn27 (fun w Q h => s27 _ _ w Q h) h) ?_
            intro v w h
            refine L_mv ?_
            refine L_u (P_ex h) ?_
            intro v w h
            refine L_u (P_ex h) ?_
            intro v w h
            refine L_as ?_
            refine L_as ?_
            refine L_nil ?_
            refine E_n ?_
            refine wp_seq ?_
            refine L_region ?_
            refine L_mv ?_
            refine L_u (P_eqi h) ?_
            intro v w h
            refine L_nil ?_
            refine E_n ?_
            refine C_cnd h (fun h => ?_) (fun h => ?_)
            · refine L_region ?_
              refine L_mv ?_
              refine L_u (P_fa fo44_0 h) ?_
              intro v w h
              refine L_u (P_ld sc3 h) ?_
              intro v w h
              refine L_u (N_cl Tryz.func30 rfl nn30 (fun w Q h => s30 _ _ w Q h) h) ?_
              intro v w h
              refine L_nil ?_
              exact J3 _ _ h
            · refine C_skip ?_
              exact J3 _ _ h
        · unfold f5_j3 at h
          refine E_n ?_
          refine wp_seq ?_
          refine D_region (by decide +kernel) 26 rfl ?_
          replace h := dr_e h
          refine G_p 0 rfl (by decide +kernel) (Y_mv h) ?_
          intro v h
          refine G_p 2 rfl (by decide +kernel) (Y_mv h) ?_
          intro v h
          refine G_p 3 rfl (by decide +kernel) (Y_nc h) ?_
          intro v h
          refine G_p 4 rfl (by decide +kernel) (Y_fa fo57_2 h) ?_
          intro v h
          refine G_r _ 5 rfl (by decide +kernel) (R_ld sc3 h) ?_
          intro v h
          refine G_e 1 rfl (by decide +kernel) (N_cl Tryz.func31 rfl nn31 (fun w Q h => s31 _ w Q h) h ?_)
          intro v w h
          refine ⟨keepF_cons (kp_1 h) keepF_nil, ?_⟩
          replace h := (kp_2 h)
          refine G_p 6 rfl (by decide +kernel) (Y_nei h) ?_
          intro v h
          refine G_p 7 rfl (by decide +kernel) (Y_mv h) ?_
          intro v h
          refine G_pg (t := 69) 8 rfl (by decide +kernel) h rfl rfl (fun h => Y_mv h) ?_
          intro v h
          refine G_pg (t := 69) 10 rfl (by decide +kernel) h rfl rfl (fun h => Y_mv h) ?_
          intro v h
          refine G_pg (t := 69) 11 rfl (by decide +kernel) h rfl rfl (fun h => Y_nc h) ?_
          intro v h
          refine G_pg (t := 69) 12 rfl (by decide +kernel) h rfl rfl (fun h => Y_fa fo57_3 h) ?_
          intro v h
          refine G_rg (t := 69) _ 13 rfl (by decide +kernel) h rfl rfl (fun h => R_ld sc3 h) ?_
          intro v h
          refine G_eg (t := 69) 9 rfl (by decide +kernel) h rfl rfl (fun c h => N_cl Tryz.func32 rfl nn32 (fun w Q h => s32 _ w Q h) h c) ?_
          intro v w h
          refine ⟨keepF_cons (kp_1 h) (keepF_dep [7, 6, 5] (by decide +kernel) rfl keepF_nil), ?_⟩
          replace h := (kp_2 h)
          refine G_pg (t := 69) 14 rfl (by decide +kernel) h rfl rfl (fun h => Y_nei h) ?_
          intro v h
          refine G_p 15 rfl (by decide +kernel) (Y_pk h) ?_
          intro v h
          refine G_p 16 rfl (by decide +kernel) (Y_mv h) ?_
          intro v h
          refine G_pg (t := 78) 17 rfl (by decide +kernel) h rfl rfl (fun h => Y_mv h) ?_
          intro v h
          refine G_pg (t := 78) 19 rfl (by decide +kernel) h rfl rfl (fun h => Y_mv h) ?_
          intro v h
          refine G_pg (t := 78) 20 rfl (by decide +kernel) h rfl rfl (fun h => Y_nc h) ?_
          intro v h
          refine G_pg (t := 78) 21 rfl (by decide +kernel) h rfl rfl (fun h => Y_fa fo57_1 h) ?_
          intro v h
          refine G_rg (t := 78) _ 22 rfl (by decide +kernel) h rfl rfl (fun h => R_ld sc22 h) ?_
          intro v h
          refine G_eg (t := 78) 18 rfl (by decide +kernel) h rfl rfl (fun c h => N_cl Tryz.func34 rfl nn34 (fun w Q h => s34 _ w Q h) h c) ?_
          intro v w h
          refine ⟨keepF_cons (kp_1 h) (keepF_dep [16, 15, 14, 13] (by decide +kernel) rfl (keepF_dep [16, 15, 7, 6, 5] (by decide +kernel) rfl keepF_nil)), ?_⟩
          replace h := (kp_2 h)
          refine G_eg (t := 78) 23 rfl (by decide +kernel) h rfl rfl (fun c h => N_cl Tryz.func33 rfl nn33 (fun w Q h => s33 _ _ w Q h) h c) ?_
          intro v w h
          refine ⟨keepF_dep [22] (by decide +kernel) rfl (keepF_dep [16, 15, 14, 13] (by decide +kernel) rfl (keepF_dep [16, 15, 7, 6, 5] (by decide +kernel) rfl keepF_nil)), ?_⟩
          refine G_pg (t := 78) 24 rfl (by decide +kernel) h rfl rfl (fun h => Y_nt h) ?_
          intro v h
          refine G_p 25 rfl (by decide +kernel) (Y_pk h) ?_
          intro v h
          refine G_done (by decide +kernel) ?_
          refine E_n ?_
          refine C_cnd h (fun h => ?_) (fun h => ?_)
          · refine wp_seq ?_
            refine L_region ?_
            refine L_as ?_
            refine L_nil ?_
            refine E_n ?_
            refine C_ret ?_
            show bodyPost Tryz.prog Tryz.f5 (Rt Q) .ret _ _
            exact post_tmps (ts := [6]) (.inr rfl) rfl h
          · refine C_skip ?_
            refine B_n ?_
            refine E_n ?_
            refine L_region ?_
            refine L_mv ?_
            refine L_u (P_ad h) ?_
            intro v w h
            refine L_as ?_
            refine L_nil ?_
            refine E_n ?_
            exact L2 _ _ h
      · refine C_exit ?_
        refine E_x ?_
        refine E_x ?_
        refine B_x ?_
        exact J1 _ _ h
    · unfold f5_j1 at h
      refine E_n ?_
      refine wp_seq ?_
      refine L_region ?_
      refine L_as ?_
      refine L_nil ?_
      refine E_n ?_
      refine C_ret ?_
      show bodyPost Tryz.prog Tryz.f5 (Rt Q) .ret _ _
      exact post_tmps (ts := [6]) (.inr rfl) rfl h

/- factotum/factotumlaw07.CacheNil -/
def f6 (t0 : Value) : M :=
  cl (f21) fun t6 =>
  nt t6 fun t7 =>
  cnd t7 (
    rt (.bool false)
    ) (
    cl (f23 (.pointer none) t0) fun t9 =>
    cl (f27 t9 t0) fun t13 =>
    ex 0 t13 fun t14 =>
    ex 1 t13 fun t15 =>
    smr Tryz.prog (do eqGuard .eql 29 (.tmp 16) (.const (.pointer none)) t9 (.pointer none); binOp .eql 29 t9 (.pointer none)) fun t17 =>
    gd t17 true (idv t14) fun t19 =>
    gd t17 true (eqs t19 (.string ⟨#[]⟩)) fun t20 =>
    pk t17 t20 (.bool false) fun t21 =>
    gd t21 true (idv t15) fun t23 =>
    gd t21 true (eqi .i64 t23 (.int .i64 1)) fun t24 =>
    pk t21 t24 (.bool false) fun t25 =>
    gd t25 true (idv t9) fun t27 =>
    gd t25 true (cl (f25 t27 (.slice none 0 0))) fun t28 =>
    gd t25 true (eqi .i64 t28 (.int .i64 1)) fun t29 =>
    pk t25 t29 (.bool false) fun t30 =>
    gd t30 true (idv t9) fun t32 =>
    gd t30 true (cl (f34 t32)) fun t33 =>
    gd t30 true (lnl t33) fun t34 =>
    gd t30 true (eqi .i64 t34 (.int .i64 0)) fun t35 =>
    pk t30 t35 (.bool false) fun t36 =>
    gd t36 true (idv t9) fun t38 =>
    gd t36 true (cl (f31 t38)) fun t39 =>
    gd t36 true (eqi .i64 t39 (.int .i64 0)) fun t40 =>
    pk t36 t40 (.bool false) fun t41 =>
    gd t41 true (idv t9) fun t43 =>
    gd t41 true (cl (f32 t43)) fun t44 =>
    gd t41 true (eqi .i64 t44 (.int .i64 0)) fun t45 =>
    pk t41 t45 (.bool false) fun t46 =>
    gd t46 true (idv t9) fun t48 =>
    gd t46 true (cl (f28 t48)) fun t49 =>
    gd t46 true (eqi .i64 t49 (.int .i64 0)) fun t50 =>
    pk t46 t50 (.bool false) fun t51 =>
    rt t51
    )
theorem s6 (t0 : Value) (w : World) (Q : Value → World → Prop) (h : f6 t0 w Q) : Calls Tryz.prog 6 #[t0] w (Rt Q) := by
  refine calls_of (l := [t0]) Tryz.func6 rfl Tryz.ntmps6 (Nat.le_of_ble_eq_true rfl) ?_
  unfold f6 at h
  refine wp_seq ?_
  refine L_region ?_
  refine L_as ?_
  refine L_nil ?_
  refine E_n ?_
  refine wp_seq ?_
  refine wp_seq ?_
  refine L_region ?_
  refine L_u (N_cl Tryz.func21 rfl nn21 (fun w Q h => s21 w Q h) h) ?_
  intro v w h
  refine L_u (P_nt h) ?_
  intro v w h
  refine L_nil ?_
  refine E_n ?_
  refine C_cnd h (fun h => ?_) (fun h => ?_)
  · refine wp_seq ?_
    refine L_region ?_
    refine L_as ?_
    refine L_nil ?_
    refine E_n ?_
    refine C_ret ?_
    show bodyPost Tryz.prog Tryz.f6 (Rt Q) .ret _ _
    exact post_tmps (ts := [2]) (.inr rfl) rfl h
  · refine C_skip ?_
    refine E_n ?_
    refine wp_seq ?_
    refine L_region ?_
    refine L_mv ?_
    refine L_u (N_cl Tryz.func23 rfl nn23 (fun w Q h => s23 _ _ w Q h) h) ?_
    intro v w h
    refine L_as ?_
    refine L_nil ?_
    refine E_n ?_
    refine wp_seq ?_
    refine L_region ?_
    refine L_mv ?_
    refine L_mv ?_
    refine L_u (N_cl Tryz.func27 rfl nn27 (fun w Q h => s27 _ _ w Q h) h) ?_
    intro v w h
    refine L_mv ?_
    refine L_u (P_ex h) ?_
    intro v w h
    refine L_u (P_ex h) ?_
    intro v w h
    refine L_as ?_
    refine L_as ?_
    refine L_nil ?_
    refine E_n ?_
    refine wp_seq ?_
    refine L_region ?_
    refine L_mv ?_
    refine L_u (P_smr rfl h) ?_
    intro v w h
    refine L_mv ?_
    refine L_g (t := 18) h rfl rfl (fun c h => P_mv h c) ?_
    intro v w h
    refine L_g (t := 18) h rfl rfl (fun c h => P_eqs h c) ?_
    intro v w h
    refine L_u (P_pk h) ?_
    intro v w h
    refine L_mv ?_
    refine L_g (t := 22) h rfl rfl (fun c h => P_mv h c) ?_
    intro v w h
    refine L_g (t := 22) h rfl rfl (fun c h => P_eqi h c) ?_
    intro v w h
    refine L_u (P_pk h) ?_
    intro v w h
    refine L_mv ?_
    refine L_g (t := 26) h rfl rfl (fun c h => P_mv h c) ?_
    intro v w h
    refine L_g (t := 26) h rfl rfl (fun c h => N_cl Tryz.func25 rfl nn25 (fun w Q h => s25 _ _ w Q h) h c) ?_
    intro v w h
    refine L_g (t := 26) h rfl rfl (fun c h => P_eqi h c) ?_
    intro v w h
    refine L_u (P_pk h) ?_
    intro v w h
    refine L_mv ?_
    refine L_g (t := 31) h rfl rfl (fun c h => P_mv h c) ?_
    intro v w h
    refine L_g (t := 31) h rfl rfl (fun c h => N_cl Tryz.func34 rfl nn34 (fun w Q h => s34 _ w Q h) h c) ?_
    intro v w h
    refine L_g (t := 31) h rfl rfl (fun c h => P_lnl is22 h c) ?_
    intro v w h
    refine L_g (t := 31) h rfl rfl (fun c h => P_eqi h c) ?_
    intro v w h
    refine L_u (P_pk h) ?_
    intro v w h
    refine L_mv ?_
    refine L_g (t := 37) h rfl rfl (fun c h => P_mv h c) ?_
    intro v w h
    refine L_g (t := 37) h rfl rfl (fun c h => N_cl Tryz.func31 rfl nn31 (fun w Q h => s31 _ w Q h) h c) ?_
    intro v w h
    refine L_g (t := 37) h rfl rfl (fun c h => P_eqi h c) ?_
    intro v w h
    refine L_u (P_pk h) ?_
    intro v w h
    refine L_mv ?_
    refine L_g (t := 42) h rfl rfl (fun c h => P_mv h c) ?_
    intro v w h
    refine L_g (t := 42) h rfl rfl (fun c h => N_cl Tryz.func32 rfl nn32 (fun w Q h => s32 _ w Q h) h c) ?_
    intro v w h
    refine L_g (t := 42) h rfl rfl (fun c h => P_eqi h c) ?_
    intro v w h
    refine L_u (P_pk h) ?_
    intro v w h
    refine L_mv ?_
    refine L_g (t := 47) h rfl rfl (fun c h => P_mv h c) ?_
    intro v w h
    refine L_g (t := 47) h rfl rfl (fun c h => N_cl Tryz.func28 rfl nn28 (fun w Q h => s28 _ w Q h) h c) ?_
    intro v w h
    refine L_g (t := 47) h rfl rfl (fun c h => P_eqi h c) ?_
    intro v w h
    refine L_u (P_pk h) ?_
    intro v w h
    refine L_as ?_
    refine L_nil ?_
    refine E_n ?_
    refine C_ret ?_
    show bodyPost Tryz.prog Tryz.f6 (Rt Q) .ret _ _
    exact post_tmps (ts := [2]) (.inr rfl) rfl h

/- (*factotum/pager.Pager).Commits -/
def f88 : M :=
  sm Tryz.prog (Instr.makeSlice 42 (.int .i64 256) (.int .i64 256)) fun t1 =>
  smr Tryz.prog (convert 42 9 t1) fun t2 =>
  rt t2
end Go.Proofs.YtongpnolikkknaaGreatDoor

set_option maxRecDepth 20000
set_option maxHeartbeats 4000000
namespace Go.Proofs.YtongpnolikkknaaGreatDoor
open Sh
attribute [local irreducible] wpL anyG act jn lo gdB amb kp smr nc fa ld ldn st stn ad su mu qu re lt le gt ge eqi nei bws shl shr cat eqs nes lts gts eqb neb nt pk cv al bx ex fld fldn lnl lns ia iaa ixs sls sll sla mif mnm mxm mm asrt sm smu cl cc cf ci cnd gd gdu
/- (*factotum/device.Device).Crash -/
def f56 (t0 : Value) : M :=
  bx 92 t0 fun t1 =>
  fa 0 t1 fun t3 =>
  ld t3 fun t4 =>
  cv .u64 t4 fun t5 =>
  re .u64 t5 (.int .u64 8) fun t6 =>
  cv .i64 t6 fun t7 =>
  rt t7
theorem s56 (t0 : Value) (w : World) (Q : Value → World → Prop) (h : f56 t0 w Q) : Calls Tryz.prog 56 #[t0] w (Rt Q) := by
  refine calls_of (l := [t0]) Tryz.func56 rfl Tryz.ntmps56 (Nat.le_of_ble_eq_true rfl) ?_
  unfold f56 at h
  refine wp_seq ?_
  refine L_region ?_
  refine L_u (P_bx h) ?_
  intro v w h
  refine L_as ?_
  refine L_nil ?_
  refine E_n ?_
  refine wp_seq ?_
  refine L_region ?_
  refine L_u (P_fa fo92_0 h) ?_
  intro v w h
  refine L_u (P_ld sc3 h) ?_
  intro v w h
  refine L_u (P_cv ai3 in37 h) ?_
  intro v w h
  refine L_u (P_re h) ?_
  intro v w h
  refine L_u (P_cv ai37 in3 h) ?_
  intro v w h
  refine L_as ?_
  refine L_nil ?_
  refine E_n ?_
  refine C_ret ?_
  show bodyPost Tryz.prog Tryz.f56 (Rt Q) .ret _ _
  exact post_tmps (ts := [2]) (.inr rfl) rfl h

/- (factotum/space.state).copy -/
def f105 (t0 : Value) : M :=
  bx 110 t0 fun t1 =>
  al 110 #[(.int .u8 0), (.int .u8 0), (.int .u8 0), (.int .u8 0), (.int .u8 0), (.int .u8 0), (.int .u8 0), (.int .u8 0), (.int .u8 0), (.int .u8 0), (.int .u8 0), (.int .u8 0), (.int .u8 0), (.int .u8 0), (.int .u8 0), (.int .u8 0), (.int .u8 0), (.int .u8 0), (.int .u8 0), (.int .u8 0), (.string ⟨#[]⟩), (.map none)] fun t2 =>
  fa 21 t1 fun t3 =>
  ld t3 fun t4 =>
  cc Tryz.prog 127 #[t4] fun t5 =>
  fa 21 t1 fun t6 =>
  st t6 t5 <|
  ldn 22 t1 fun t7 =>
  stn 22 t2 t7 <|
  ldn 22 t2 fun r0 =>
  rt r0
def f67 (t0 t1 t2 : Value) : M :=
  cl (f74 t0 t1) fun t10 =>
  nei .i64 t10 (.int .i64 0) fun t12 =>
  cnd t12 (
    rt t10
    ) (
    lns t2 fun t15 =>
    nei .i64 t15 (.int .i64 256) fun t16 =>
    cnd t16 (
      rt (.int .i64 1)
      ) (
      nc t0 fun t18 =>
      fa 1 t18 fun t19 =>
      fa 21 t19 fun t20 =>
      ld t20 fun t21 =>
      smu Tryz.prog (Instr.mapUpdate 107 t21 t1 t2) <|
      rt (.int .i64 0)
      )
    )
theorem s67 (t0 t1 t2 : Value) (w : World) (Q : Value → World → Prop) (h : f67 t0 t1 t2 w Q) : Calls Tryz.prog 67 #[t0, t1, t2] w (Rt Q) := by
  refine calls_of (l := [t0, t1, t2]) Tryz.func67 rfl Tryz.ntmps67 (Nat.le_of_ble_eq_true rfl) ?_
  unfold f67 at h
  refine wp_seq ?_
  refine L_region ?_
  refine L_as ?_
  refine L_nil ?_
  refine E_n ?_
  refine wp_seq ?_
  refine wp_seq ?_
  refine L_region ?_
  refine L_mv ?_
  refine L_mv ?_
  refine L_u (N_cl Tryz.func74 rfl nn74 (fun w Q h => s74 _ _ w Q h) h) ?_
  intro v w h
  refine L_as ?_
  refine L_nil ?_
  refine E_n ?_
  refine wp_seq ?_
  refine L_region ?_
  refine L_mv ?_
  refine L_u (P_nei h) ?_
  intro v w h
  refine L_nil ?_
  refine E_n ?_
  refine C_cnd h (fun h => ?_) (fun h => ?_)
  · refine wp_seq ?_
    refine L_region ?_
    refine L_mv ?_
    refine L_as ?_
    refine L_nil ?_
    refine E_n ?_
    refine C_ret ?_
    show bodyPost Tryz.prog Tryz.f67 (Rt Q) .ret _ _
    exact post_tmps (ts := [6]) (.inr rfl) rfl h
  · refine C_skip ?_
    refine E_n ?_
    refine wp_seq ?_
    refine wp_seq ?_
    refine L_region ?_
    refine L_mv ?_
    refine L_u (P_lns st9 h) ?_
    intro v w h
    refine L_u (P_nei h) ?_
    intro v w h
    refine L_nil ?_
    refine E_n ?_
    refine C_cnd h (fun h => ?_) (fun h => ?_)
    · refine wp_seq ?_
      refine L_region ?_
      refine L_as ?_
      refine L_nil ?_
      refine E_n ?_
      refine C_ret ?_
      show bodyPost Tryz.prog Tryz.f67 (Rt Q) .ret _ _
      exact post_tmps (ts := [6]) (.inr rfl) rfl h
    · refine C_skip ?_
      refine E_n ?_
      refine wp_seq ?_
      refine L_region ?_
      refine L_mv ?_
      refine L_u (P_nc h) ?_
      intro v w h
      refine L_u (P_fa fo113_1 h) ?_
      intro v w h
      refine L_u (P_fa fo110_2 h) ?_
      intro v w h
      refine L_u (P_ld sc107 h) ?_
      intro v w h
      refine L_mv ?_
      refine L_mv ?_
      refine L_u (P_smu rfl h) ?_
      intro w h
      refine L_nil ?_
      refine E_n ?_
      refine wp_seq ?_
      refine L_region ?_
      refine L_as ?_
      refine L_nil ?_
      refine E_n ?_
      refine C_ret ?_
      show bodyPost Tryz.prog Tryz.f67 (Rt Q) .ret _ _
      exact post_tmps (ts := [6]) (.inr rfl) rfl h

/- (*factotum/space.Work).SetHead -/
end Go.Proofs.YtongpnolikkknaaGreatDoor

set_option maxRecDepth 20000
set_option maxHeartbeats 4000000
namespace Go.Proofs.YtongpnolikkknaaGreatDoor
open Sh
attribute [local irreducible] wpL anyG act jn lo gdB amb kp smr nc fa ld ldn st stn ad su mu qu re lt le gt ge eqi nei bws shl shr cat eqs nes lts gts eqb neb nt pk cv al bx ex fld fldn lnl lns ia iaa ixs sls sll sla mif mnm mxm mm asrt sm smu cl cc cf ci cnd gd gdu
/- (*factotum/factotumref08.Work).there -/
def f99 (t0 t1 : Value) : M :=
  nc t0 fun t6 =>
  fa 3 t6 fun t7 =>
  ld t7 fun t8 =>
  cnd t8 (
    rt (.int .i64 13)
    ) (
    lns t1 fun t10 =>
    gt .i64 t10 (.int .i64 236) fun t11 =>
    cnd t11 (
      rt (.int .i64 3)
      ) (
      dr <|
      idv t0 fun t12 =>
      nc t12 fun t13 =>
      fa 1 t13 fun t14 =>
      ld t14 fun t15 =>
      idv t0 fun t16 =>
      nc t16 fun t17 =>
      fa 1 t17 fun t18 =>
      ld t18 fun t19 =>
      ia 1 t19 (.int .i64 0) fun t20 =>
      ld t20 fun t21 =>
      sls t21 none (some (.int .i64 20)) fun t22 =>
      idv t1 fun t23 =>
      cat t22 t23 fun t24 =>
      idv t1 fun t26 =>
      lns t26 fun t27 =>
      su .i64 (.int .i64 236) t27 fun t28 =>
      cl (f88) fun t25 =>
      kp (Kld t20 t21) <|
      kp (Kld t18 t19) <|
      kp (Kld t14 t15) <|
      sls t25 none (some t28) fun t29 =>
      cat t24 t29 fun t30 =>
      ia 1 t15 (.int .i64 0) fun t31 =>
      st t31 t30 <|
      rt (.int .i64 0)
      )
    )
end Go.Proofs.YtongpnolikkknaaGreatDoor

set_option maxRecDepth 20000
set_option maxHeartbeats 4000000
namespace Go.Proofs.YtongpnolikkknaaGreatDoor
open Sh
attribute [local irreducible] wpL anyG act jn lo gdB amb kp smr nc fa ld ldn st stn ad su mu qu re lt le gt ge eqi nei bws shl shr cat eqs nes lts gts eqb neb nt pk cv al bx ex fld fldn lnl lns ia iaa ixs sls sll sla mif mnm mxm mm asrt sm smu cl cc cf ci cnd gd gdu
/- (*factotum/space.Work).Head -/
end Go.Proofs.YtongpnolikkknaaGreatDoor

namespace Go.Proofs.YtongpnolikkknaaGreatDoor
namespace Sh
open RowKit
/-- a string's bytes as whole numbers -/
def byL (s : ByteArray) : List Int := s.data.toList.map (fun b => (b.toNat : Int))
theorem byL_len (s : ByteArray) : (byL s).length = s.size := by simp only [byL, List.length_map, Array.length_toList]; rfl
theorem byL_get (s : ByteArray) (i : Nat) (h : i < (byL s).length) : ∃ c, s[i]? = some c ∧ (byL s)[i] = (c.toNat : Int) := by
  have h' : i < s.size := by rw [byL_len] at h; exact h
  refine ⟨s[i], ?_, ?_⟩
  · rw [getElem?_pos s i h']
  · simp only [byL, List.getElem_map, Array.getElem_toList]; rfl
theorem byL_nn {s : ByteArray} {x : Int} (h : x ∈ byL s) : 0 ≤ x ∧ x ≤ 255 := by
  simp only [byL, List.mem_map] at h
  obtain ⟨b, _, rfl⟩ := h
  have := b.toNat_lt
  omega
section
variable {P : Program} {w : World} {Q : Value → World → Prop} {K : Value → M} {B : Nat}
theorem Below_bytes {A : World} (e : TypeId) (s : ByteArray) (h : Below B A w) (hB : B ≤ w.heap.size) : Below B A (Go.Lib.bytesWorld w e s) :=
  h.trans ⟨rfl, rfl, rfl, by rw [Go.Lib.bytesWorld_size]; omega, fun k hk => Go.Lib.bytesWorld_at_old w e s k (by omega)⟩
theorem cvs {src dst e : TypeId} {z : Value} {n b : Nat} {s : ByteArray} (hs : isStr P src = true) (h : slT P dst e z n b) (he : P.underlying e = some (.int .u8))
    (k : ∀ v w', rdI .u8 w' v (byL s) → Below w.heap.size w w' → K v w' Q) : sm P (convert src dst (.string s)) K w Q := by
  obtain ⟨i, h1, _⟩ := slT_info h
  unfold isStr at hs
  cases hu : P.underlying src with
  | none => simp [hu] at hs
  | some u =>
    refine ⟨_, _, Go.Lib.run_convert_string_bytes w src dst e s hu h1 he, k _ _ ?_ (Below_bytes e s (Below.refl _ w) (Nat.le_refl _))⟩
    refine ⟨_, _, by rw [byL_len], ?_⟩
    intro i hi
    have hi' : i < s.size := by rw [byL_len] at hi; exact hi
    refine ⟨_, rfl, ?_⟩
    rw [add_lit, Nat.zero_add, Go.Lib.bytesWorld_cell w e s i hi']
    have hd : i < s.data.toList.length := by simpa using hi'
    simp [byL, List.getD, hi']
/-- a block that is there stays -/
theorem stay {w w' : World} {p : Nat} {o : Obj} (hb : Below w.heap.size w w') (h : w.heap[p]? = some o) : w'.heap[p]? = some o := by
  rcases Nat.lt_or_ge p w.heap.size with hp | hp
  · rw [hb.block p hp]; exact h
  · simp [Array.getElem?_eq_none hp] at h
theorem blk_lt {w : World} {p : Nat} {o : Obj} (h : w.heap[p]? = some o) : p < w.heap.size := by
  rcases Nat.lt_or_ge p w.heap.size with hp | hp
  · exact hp
  · simp [Array.getElem?_eq_none hp] at h
theorem bt {w0 w w' : World} (b : Below w0.heap.size w0 w) (hb : Below w.heap.size w w') : Below w0.heap.size w0 w' := b.trans (hb.mono b.size)
theorem bt' {B : Nat} {w0 w w' : World} (b : Below B w0 w) (hB : B ≤ w.heap.size) (hb : Below w.heap.size w w') : Below B w0 w' := b.trans (hb.mono hB)
theorem b_psh (w : World) (o : Obj) : Below w.heap.size w (psh w o) := Below_psh (Below.refl _ w) (Nat.le_refl _)
end
end Sh
end Go.Proofs.YtongpnolikkknaaGreatDoor

namespace Go.Proofs.YtongpnolikkknaaGreatDoor
namespace Sh
open RowKit
section
variable {P : Program} {w : World} {d : Nat} {xs ys : Array Value} {f : Field} {fs : List Field} {r : Bool}
end
end Sh
end Go.Proofs.YtongpnolikkknaaGreatDoor

namespace Go.Proofs.YtongpnolikkknaaGreatDoor
namespace Sh
open RowKit
theorem son_size (l : List Int) : (strOfNums l).size = l.length := strOfNums_size l
theorem son_byL (s : ByteArray) : strOfNums (byL s) = s := by
  apply ByteArray.ext
  apply Array.toList_inj.1
  rw [strOfNums_data, byL, List.map_map]
  conv => rhs; rw [← List.map_id s.data.toList]
  apply List.map_congr_left
  intro x _
  simp
theorem byL_son {l : List Int} (h : ∀ x ∈ l, 0 ≤ x ∧ x ≤ 255) : byL (strOfNums l) = l := by
  unfold byL
  rw [strOfNums_data, List.map_map]
  conv => rhs; rw [← List.map_id l]
  apply List.map_congr_left
  intro x hx
  have := h x hx
  simp only [Function.comp_apply, id_eq, UInt8.toNat_ofNat']
  omega
theorem byL_inj {s t : ByteArray} (h : byL s = byL t) : s = t := by rw [← son_byL s, ← son_byL t, h]
theorem byL_app (s t : ByteArray) : byL (s ++ t) = byL s ++ byL t := by
  unfold byL
  rw [ByteArray.data_append, Array.toList_append, List.map_append]
theorem byL_take (s : ByteArray) (l h : Nat) : byL (s.extract l h) = ((byL s).take h).drop l := by
  unfold byL
  rw [ByteArray.data_extract, Array.toList_extract, List.drop_take]
  simp only [List.extract, List.map_take, List.map_drop]
theorem byL_nil : byL ⟨#[]⟩ = [] := rfl
section
variable {P : Program} {w : World} {Q : Value → World → Prop} {K : Value → M} {B : Nat}
theorem run_cvb {src dst e : TypeId} {z : Value} {n b : Nat} {l : List Int} {v : Value} (hs : slT P src e z n b) (he : P.underlying e = some (.int .u8)) (hd : isStr P dst = true) (hr : rdI .u8 w v l) :
    (convert src dst v).run P w = .ok (.string (strOfNums l)) w := by
  obtain ⟨i, h1, _⟩ := slT_info hs
  have hd' : P.underlying dst = some .string := by
    unfold isStr at hd
    cases hu : P.underlying dst with
    | none => simp [hu] at hd
    | some u => cases u <;> simp_all
  obtain ⟨p, c, rfl, h⟩ := hr
  rw [run_convert_bytes_string w src dst e p l.length c h1 he hd']
  cases p with
  | none =>
    have : l = [] := by
      cases l with
      | nil => rfl
      | cons x l => obtain ⟨a, ha, _⟩ := h 0 (by simp); cases ha
    subst this
    simp [Conv.bytesToString]
    rfl
  | some a =>
    have hl : (loadCells a l.length).run P w = .ok (l.map (Value.int .u8)).toArray w := by
      have := run_loadCells_list (P := P) w a (l.map (Value.int .u8)) (fun j v hj => by
        have hjl : j < l.length := by
          rcases Nat.lt_or_ge j l.length with h | h
          · exact h
          · simp [List.getElem?_eq_none (show (l.map (Value.int .u8)).length ≤ j by simpa using h)] at hj
        obtain ⟨a', e1, e2⟩ := h j hjl
        cases e1
        rw [e2]
        simp [List.getElem?_eq_getElem hjl] at hj
        rw [hj])
      simpa using this
    rw [run_bytesToString w a l.length c l hl, foldl_push_bytes]
    simp [strOfNums, ByteArray.empty, ByteArray.emptyWithCapacity]
    rfl
theorem cvb {src dst e : TypeId} {z : Value} {n b : Nat} {l : List Int} {v : Value} (hs : slT P src e z n b) (he : P.underlying e = some (.int .u8)) (hd : isStr P dst = true) (hr : rdI .u8 w v l)
    (k : K (.string (strOfNums l)) w Q) : smr P (convert src dst v) K w Q := ⟨_, run_cvb hs he hd hr, k⟩
/-- a row of whole numbers, as an argument or the call's own -/
def rdP (k : IntKind) (w : World) (v : Value) (l : List Int) : Prop :=
  (v = .slice none 0 0 ∧ l = []) ∨ ∃ a c, v = .slice (some a) l.length c ∧ ∀ i (h : i < l.length), w.cell? (a.add i) = some (.int k l[i])
theorem rdP_rd {k : IntKind} {w : World} {v : Value} {l : List Int} (h : rdP k w v l) : rdI k w v l := by
  rcases h with ⟨rfl, rfl⟩ | ⟨a, c, rfl, h⟩
  · exact ⟨none, 0, rfl, fun i h => by simp at h⟩
  · exact ⟨some a, c, rfl, fun i hi => ⟨a, rfl, h i hi⟩⟩
theorem rdP_below {k : IntKind} {w w' : World} {v : Value} {l : List Int} (hb : Below w.heap.size w w') (h : rdP k w v l) : rdP k w' v l := by
  rcases h with h | ⟨a, c, rfl, h⟩
  · exact .inl h
  · exact .inr ⟨a, c, rfl, fun i hi => cell_below hb (h i hi)⟩
theorem ownI_rdP {B : Nat} {e : TypeId} {k : IntKind} {w : World} {v : Value} {l : List Int} (h : ownI B e k w v l) : rdP k w v l := by
  obtain ⟨h1, h2⟩ := h
  rcases h2 with ⟨rfl, h0⟩ | ⟨g, cap, cur, rfl, hg⟩
  · exact .inl ⟨rfl, List.length_eq_zero_iff.1 h0⟩
  · refine .inr ⟨_, _, rfl, fun i hi => ?_⟩
    rw [add_lit, Nat.zero_add]
    exact ownI_cell ⟨h1, .inr ⟨g, cap, cur, rfl, hg⟩⟩ i hi
/-- numbers behind a row of the call's own -/
theorem ap_rd {t ty e : TypeId} {k : IntKind} {b : Nat} (h : slT P t e (.int k 0) 1 b) {v u : Value} {l m : List Int} (hown : ownI B e k w v l) (hr : rdP k w u m)
    (hbytes : (l.length + m.length) * b ≤ 140737488355328) (h63 : l.length + m.length ≤ 140737488355328) (hB : B ≤ w.heap.size)
    (kk : ∀ v' w', ownI B e k w' v' (l ++ m) → w.grownBy w' v.ownBlock → K v' w' Q) : sm P (Builtin.append_ #[t, t] ty #[v, u]) K w Q := by
  obtain ⟨i, g1, g2, g3, g4, g5⟩ := slT_info h
  rcases hr with ⟨rfl, rfl⟩ | ⟨a, c, rfl, hr⟩
  · refine ⟨v, w, run_append_owned_none w B t ty e i 1 g1 g2 v l.length (l.map (Value.int k)) hown, kk v w (by rw [List.append_nil]; exact hown) (World.grownBy.refl w _)⟩
  · obtain ⟨v', w', hrun, ho, hg, _⟩ := run_append_own (P := P) w B t ty e i (.int k 0) 1 b g1 g2 g3 g4 g5 rfl (by decide) v l.length (l.map (Value.int k)) hown a m.length c (m.map (Value.int k)) (by simp) (by
        intro j u hj
        have hjl : j < m.length := by
          rcases Nat.lt_or_ge j m.length with h | h
          · exact h
          · simp [List.getElem?_eq_none (show (m.map (Value.int k)).length ≤ j by simpa using h)] at hj
        rw [hr j hjl]
        simp [List.getElem?_eq_getElem hjl] at hj
        rw [hj]) (by intro u hu; simp only [List.mem_map] at hu; obtain ⟨x, _, rfl⟩ := hu; rfl) (by unfold maxLen; omega) hbytes hB
    refine ⟨v', w', hrun, kk v' w' ?_ hg⟩
    unfold ownI
    rw [List.length_append, List.map_append]
    exact ho
theorem ownI_weak {B B' : Nat} {e : TypeId} {k : IntKind} {w : World} {v : Value} {l : List Int} (h : ownI B e k w v l) (hB : B' ≤ B) : ownI B' e k w v l := by
  obtain ⟨o1, o2⟩ := h
  refine ⟨o1, o2.imp id ?_⟩
  rintro ⟨g, cap, cur, q1, q2, q3⟩
  exact ⟨g, cap, cur, q1, by omega, q3⟩
/-- a new row of zeros -/
theorem mkI {t e : TypeId} {k j j' : IntKind} {b n : Nat} (h : slT P t e (.int k 0) 1 b) (hn : b * n ≤ 281474976710656) (hn2 : n ≤ 281474976710656) (hB : B ≤ w.heap.size)
    (kk : ∀ v' w', ownI B e k w' v' (List.replicate n 0) → Below w.heap.size w w' → K v' w' Q) : sm P (Instr.makeSlice t (.int j (n : Int)) (.int j' (n : Int))) K w Q := by
  obtain ⟨i, g1, g2, g3, g4, g5⟩ := slT_info h
  obtain ⟨w', hr, ho, hg⟩ := run_make_full (P := P) w w.heap.size t e i (.int k 0) 1 g1 g2 g3 g4 j j' n (by rw [g5]; exact hn) (by unfold maxLen; omega) (Nat.le_refl _)
  refine ⟨_, w', hr, kk _ _ ?_ ?_⟩
  · have e : (madeCells (Value.int k 0).cells (n * 1)).toList = (List.replicate n (0 : Int)).map (Value.int k) := by
      apply List.ext_getElem
      · simp [madeCells]
      · intro i h1 h2
        simp [madeCells, Value.cells, Nat.mod_one]
    rw [e] at ho
    refine ownI_weak (B := w.heap.size) ?_ hB
    unfold ownI
    rw [List.length_replicate]
    exact ho
  · exact (Below.refl _ _).grown hg (Nat.le_refl _) (fun k hk => by cases hk)
end
end Sh
end Go.Proofs.YtongpnolikkknaaGreatDoor

namespace Go.Proofs.YtongpnolikkknaaGreatDoor
namespace Sh
open RowKit ChangeShapes
/-! one block changed -/
/-- below the old end all is as it was but block p -/
structure Chg (p : Nat) (w w' : World) : Prop where
  os : w'.os = w.os
  tape : w'.tape = w.tape
  output : w'.output = w.output
  size : w.heap.size ≤ w'.heap.size
  block : ∀ k, k < w.heap.size → k ≠ p → w'.heap[k]? = w.heap[k]?
theorem Upd.chg {p : Nat} {w w' : World} (h : Upd p w w') : Chg p w w' := ⟨h.os, h.tape, h.output, by rw [h.size]; exact Nat.le_refl _, fun k _ hk => h.block k hk⟩
theorem Chg.refl (p : Nat) (w : World) : Chg p w w := ⟨rfl, rfl, rfl, Nat.le_refl _, fun _ _ _ => rfl⟩
theorem Chg.of_below {p : Nat} {w w' : World} (h : Below w.heap.size w w') : Chg p w w' := ⟨h.os, h.tape, h.output, h.size, fun k hk _ => h.block k hk⟩
theorem Chg.trans {p : Nat} {a b c : World} (h : Chg p a b) (k : Chg p b c) : Chg p a c :=
  ⟨k.os.trans h.os, k.tape.trans h.tape, k.output.trans h.output, Nat.le_trans h.size k.size, fun i hi hp => (k.block i (Nat.lt_of_lt_of_le hi h.size) hp).trans (h.block i hi hp)⟩
theorem Chg.below {p B : Nat} {w w' : World} (h : Chg p w w') (hB : B ≤ p) (hw : B ≤ w.heap.size) : Below B w w' := ⟨h.os, h.tape, h.output, h.size, fun k hk => h.block k (by omega) (by omega)⟩
theorem Chg.keep {p q : Nat} {w w' : World} {o : Obj} (h : Chg p w w') (hq : w.heap[q]? = some o) (hne : q ≠ p) : w'.heap[q]? = some o := by rw [h.block q (blk_lt hq) hne]; exact hq
theorem Chg.drw {p : Nat} {w w' : World} (h : Chg p w w') : Chg p w (drw w') := ⟨h.os, h.tape, h.output, h.size, h.block⟩
theorem Chg.cell {p : Nat} {w w' : World} {a : Addr} {v : Value} (h : Chg p w w') (hc : w.cell? a = some v) (hne : a.block ≠ p) : w'.cell? a = some v := by
  have := cell_lt hc
  unfold World.cell? at hc ⊢
  rw [h.block _ this hne]; exact hc
theorem bc {B p : Nat} {w0 w w' : World} (b : Below B w0 w) (hB : B ≤ p) (hw : B ≤ w.heap.size) (h : Chg p w w') : Below B w0 w' := b.trans (h.below hB hw)
section
variable {w : World} {Q : Value → World → Prop} {K : Value → M} {K0 : M} {B : Nat}
theorem rds2 {b : Nat} {c : Array Value} {t : TypeId} {fr : Nat × Nat} (h : w.heap[b]? = some (.cells c t fr)) : rds w ⟨b, 0, none⟩ c :=
  rds_of_blk h (fun j v hj => by simpa using hj)
theorem ldn_box {n b : Nat} {c : Array Value} {t : TypeId} {fr : Nat × Nat} (h : w.heap[b]? = some (.cells c t fr)) (hn : c.size = n) (k : K (.agg c) w Q) : ldn n (.pointer (some ⟨b, 0, none⟩)) K w Q :=
  ⟨_, c, rfl, hn, rds2 h, k⟩
/-- one cell of a block stored -/
theorem st_box {b o : Nat} {c : Array Value} {t : TypeId} {v : Value} (h : w.heap[b]? = some (.cells c t (0, 0))) (ho : o < c.size) (hv : v.oneCell' = true)
    (k : ∀ w', w'.heap[b]? = some (.cells (c.setIfInBounds o v) t (0, 0)) → Upd b w w' → K0 w' Q) : st (.pointer (some ⟨b, o, none⟩)) v K0 w Q := by
  rw [st_e]
  refine ⟨by rw [cell_of_blk h]; simp [ho], frozen_zero h, hv, k _ (blk_setCell h) ?_⟩
  exact ⟨rfl, rfl, rfl, size_setCell, fun k hk => blk_setCell_ne hk⟩
end
/-! slices of whatever -/
abbrev RepT (α : Type) := World → List Value → α → Prop
def cellsAt (w : World) (a : Addr) (es : List Value) : Prop := ∀ j v, es[j]? = some v → w.cell? (a.add j) = some v
/-- a slice, each element n cells, that reads as l -/
def rdS {α : Type} (n : Nat) (R : RepT α) (w : World) (v : Value) (l : List α) : Prop :=
  (v = .slice none 0 0 ∧ l = []) ∨ ∃ a c, v = .slice (some a) l.length c ∧ l.length ≤ c ∧ ∀ i (h : i < l.length), ∃ es, es.length = n ∧ cellsAt w (a.add (i * n)) es ∧ R w es l[i]
theorem cellsAt_below {w w' : World} {a : Addr} {es : List Value} (hb : Below w.heap.size w w') (h : cellsAt w a es) : cellsAt w' a es := fun j v hj => cell_below hb (h j v hj)
def Stable {α : Type} (R : RepT α) : Prop := ∀ (w w' : World) (es : List Value) (x : α), Below w.heap.size w w' → R w es x → R w' es x
theorem rdS_below {α : Type} {n : Nat} {R : RepT α} (hR : Stable R) {w w' : World} {v : Value} {l : List α} (hb : Below w.heap.size w w') (h : rdS n R w v l) : rdS n R w' v l := by
  rcases h with h | ⟨a, c, rfl, hcc, h⟩
  · exact .inl h
  · refine .inr ⟨a, c, rfl, hcc, fun i hi => ?_⟩
    obtain ⟨es, h1, h2, h3⟩ := h i hi
    exact ⟨es, h1, cellsAt_below hb h2, hR _ _ _ _ hb h3⟩
theorem rdS_len {α : Type} {n : Nat} {R : RepT α} {w : World} {v : Value} {l : List α} (h : rdS n R w v l) : ∃ p c, v = .slice p l.length c := by
  rcases h with ⟨rfl, rfl⟩ | ⟨a, c, rfl, hcc, h⟩
  · exact ⟨none, 0, rfl⟩
  · exact ⟨some a, c, rfl⟩
theorem lnl_S {α : Type} {n : Nat} {R : RepT α} {w w1 : World} {v : Value} {l : List α} {K : Value → M} {Q : Value → World → Prop} (h : rdS n R w v l) (kk : K (.int .i64 l.length) w1 Q) : lnl v K w1 Q := by
  obtain ⟨p, c, rfl⟩ := rdS_len h
  rw [lnl_e]; exact kk
/-- an element's place, the same in whatever world -/
theorem rdS_at {α : Type} {n : Nat} {R : RepT α} {w : World} {v : Value} {l : List α} (h : rdS n R w v l) {i : Nat} (hi : i < l.length) :
    ∃ ad es, es.length = n ∧ cellsAt w ad es ∧ R w es l[i] ∧ ∀ (k : IntKind) (K : Value → M) (w' : World) (Q : Value → World → Prop), ia n v (.int k (i : Int)) K w' Q = K (.pointer (some ad)) w' Q := by
  rcases h with ⟨rfl, rfl⟩ | ⟨a, c, rfl, hcc, h⟩
  · simp at hi
  · obtain ⟨es, h1, h2, h3⟩ := h i hi
    refine ⟨_, es, h1, h2, h3, fun k K w' Q => ?_⟩
    rw [ia_e, Int.toNat_natCast]
    apply propext
    constructor
    · rintro ⟨_, _, h⟩; exact h
    · intro h; exact ⟨by omega, by omega, h⟩
theorem ldn_at {n : Nat} {w : World} {a : Addr} {es : List Value} {K : Value → M} {Q : Value → World → Prop} (hc : cellsAt w a es) (hn : es.length = n) (k : K (.agg es.toArray) w Q) : ldn n (.pointer (some a)) K w Q :=
  ⟨a, es.toArray, rfl, by simpa using hn, fun j v hj => hc j v (by simpa using hj), k⟩
theorem add_zero' (a : Addr) : a.add 0 = a := rfl
section
variable {P : Program}
/-- whatever is read as a T is an α, told by R, of at most that bulk -/
def Opens (P : Program) (t : TypeId) (α : Type) (R : RepT α) (bulk : α → Nat) : Prop :=
  ∀ {H : Type} (enc : TypeId × Value → H) (w : World) (held : Bool) (fuel : Nat) (cs : List Value) (x : DataW H × List MemPlace),
    DataW.trod enc P w 0 (fun _ => true) held fuel t cs = some x → (x.1.weights P t).all (· ≤ reachBytes) = true → ∃ a, R w cs a ∧ bulk a ≤ Rows.uptoBulk x.1
theorem step_of {H : Type} {enc : TypeId × Value → H} {w : World} {sp : Nat → Bool} {held : Bool} {fuel : Nat} {t : TypeId} {cs : List Value} {x : DataW H × List MemPlace} (h : DataW.trod enc P w 0 sp held fuel t cs = some x) :
    ∃ n, fuel = n + 1 ∧ DataW.trod enc P w 0 sp held (n + 1) t cs = some x := by
  cases fuel with
  | zero => simp [DataW.trod] at h
  | succ n => exact ⟨n, rfl, h⟩
theorem mapM_all' {α β : Type} {g : α → Option β} : ∀ {l : List α} {ys : List β}, l.mapM g = some ys → ys.length = l.length ∧ ∀ (i : Nat) (h : i < l.length), ∃ y, g l[i] = some y ∧ ys[i]? = some y := by
  intro l
  induction l with
  | nil => intro ys h; simp at h; subst h; simp
  | cons a l ih =>
    intro ys h
    rw [List.mapM_cons] at h
    cases ha : g a with
    | none => simp [ha] at h
    | some y =>
      cases hl : l.mapM g with
      | none => simp [ha, hl] at h
      | some zs =>
        simp [ha, hl] at h
        subst h
        obtain ⟨h1, h2⟩ := ih hl
        refine ⟨by simp [h1], fun i hi => ?_⟩
        cases i with
        | zero => exact ⟨y, ha, rfl⟩
        | succ i => simpa using h2 i (by simpa using hi)
def iR (k : IntKind) : RepT Int := fun _ cs a => cs = [.int k a] ∧ (Lit.int k a).wf = true
def bR : RepT Bool := fun _ cs a => cs = [.bool a]
/-- a slice: its cell, what it reads as, its size -/
def lR {α : Type} (n b : Nat) (R : RepT α) : RepT (List α) := fun w cs l => ∃ v, cs = [v] ∧ rdS n R w v l ∧ l.length * b ≤ reachBytes
theorem op_int {t : TypeId} {k : IntKind} (hu : P.underlying t = some (.int k)) : Opens P t Int (iR k) (fun _ => 1) := by
  intro H enc w held fuel cs x h _
  obtain ⟨a, h1, h2, h3⟩ := DataW.trod_int hu h
  refine ⟨a, ⟨h1, h3⟩, ?_⟩
  cases x with | mk d p => cases d with
    | lit l => cases l <;> simp [Rows.uptoBulk]
    | _ => simp [Rows.uptoBulk]
theorem op_bool {t : TypeId} (hu : P.underlying t = some .bool) : Opens P t Bool bR (fun _ => 1) := by
  intro H enc w held fuel cs x h _
  obtain ⟨n, rfl, h⟩ := step_of h
  rw [DataW.trod_step] at h
  unfold DataW.trodStep at h
  simp only [hu] at h
  split at h <;> first | (cases h; done) | (rename_i heq _; cases heq; done) | skip
  rename_i b _ _
  cases h
  exact ⟨b, rfl, by simp [Rows.uptoBulk]⟩
theorem cells?_at {w : World} {a : Addr} {n : Nat} {es : List Value} (h : w.cells? 0 a n = some es) : es.length = n ∧ cellsAt w a es := by
  unfold World.cells? at h
  rw [if_pos (Nat.zero_le _)] at h
  obtain ⟨h1, h2⟩ := mapM_all' h
  rw [List.length_range] at h1
  refine ⟨h1, fun j v hj => ?_⟩
  have hlt : j < es.length := by
    rcases Nat.lt_or_ge j es.length with h | h
    · exact h
    · simp [List.getElem?_eq_none h] at hj
  obtain ⟨y, g1, g2⟩ := h2 j (by simpa [← h1] using hlt)
  rw [List.getElem_range] at g1
  rw [hj] at g2
  cases g2
  exact g1
theorem sum_le_all {H : Type} {α : Type} {b : α → Nat} : ∀ (l : List α) (ys : List (DataW H)), l.length = ys.length → (∀ (i : Nat) (h : i < l.length) (h' : i < ys.length), b l[i] ≤ Rows.uptoBulk ys[i]) → (l.map b).sum ≤ Rows.uptoBulkAll ys := by
  intro l
  induction l with
  | nil => intro ys _ _; simp
  | cons x l ih =>
    intro ys hl h
    cases ys with
    | nil => simp at hl
    | cons y ys =>
      have h0 := h 0 (by simp) (by simp)
      have := ih ys (by simpa using hl) (fun i h1 h2 => h (i + 1) (Nat.succ_lt_succ h1) (Nat.succ_lt_succ h2))
      simp only [List.map_cons, List.sum_cons, Rows.uptoBulkAll]
      simp at h0
      omega
theorem choose_list {α : Type} {n : Nat} {p : Nat → α → Prop} (h : ∀ i, i < n → ∃ a, p i a) : ∃ l : List α, l.length = n ∧ ∀ i (hi : i < l.length), p i l[i] := by
  induction n with
  | zero => exact ⟨[], rfl, fun i hi => by simp at hi⟩
  | succ n ih =>
    obtain ⟨l, h1, h2⟩ := ih (fun i hi => h i (by omega))
    obtain ⟨a, ha⟩ := h n (by omega)
    refine ⟨l ++ [a], by simp [h1], fun i hi => ?_⟩
    by_cases c : i < l.length
    · rw [List.getElem_append_left c]; exact h2 i c
    · have : i = l.length := by simp at hi; omega
      subst this
      simp [h1, ha]
theorem weights_all {H : Type} {e : TypeId} : ∀ (l : List (DataW H)), (DataW.weightsAll P e l).all (· ≤ reachBytes) = true → ∀ (i : Nat) (h : i < l.length), (l[i].weights P e).all (· ≤ reachBytes) = true := by
  intro l
  induction l with
  | nil => intro _ i h; simp at h
  | cons d l ih =>
    intro hw i h
    simp only [DataW.weightsAll, List.all_append, Bool.and_eq_true] at hw
    cases i with
    | zero => exact hw.1
    | succ i => exact ih hw.2 i (by simpa using h)
theorem op_slice {t e : TypeId} {n : Nat} {α : Type} {R : RepT α} {b : α → Nat} (hu : P.underlying t = some (.slice e)) (hn : P.cellsOf e = n) (he : Opens P e α R b) : Opens P t (List α) (lR n (P.bytesOf e) R) (fun l => (l.map b).sum + 1) := by
  intro H enc w held fuel cs x h hw
  subst hn
  obtain ⟨f, rfl, h⟩ := step_of h
  rw [DataW.trod_step] at h
  unfold DataW.trodStep at h
  simp only [hu] at h
  split at h <;> first | (cases h; done) | (rename_i heq _; cases heq; done) | skip
  · cases h; exact ⟨[], ⟨_, rfl, .inl ⟨rfl, rfl⟩, by simp⟩, by simp [Rows.uptoBulk]⟩
  · rename_i a len cap heq _
    cases heq
    simp only [Option.ite_none_right_eq_some, Option.bind_eq_some_iff, Option.map_eq_some_iff, if_true] at h
    obtain ⟨hc, ys, hy, zs, hz, rfl⟩ := h
    obtain ⟨hl, hall⟩ := mapM_all' hy
    rw [List.length_range] at hl
    simp only [DataW.weights, hu, List.all_cons, List.all_append, Bool.and_eq_true, decide_eq_true_eq] at hw
    have hwa := fun (i : Nat) (h : i < (ys.map (·.1)).length) => weights_all (ys.map (·.1)) hw.2.1 i h
    have key : ∀ i, i < len → ∃ q : α, ∃ y es, ys[i]? = some y ∧ es.length = P.cellsOf e ∧ cellsAt w (a.add (i * P.cellsOf e)) es ∧ R w es q ∧ b q ≤ Rows.uptoBulk y.1 := by
      intro i hi
      obtain ⟨y, g1, g2⟩ := hall i (by simpa using hi)
      rw [List.getElem_range] at g1
      cases hcs : w.cells? 0 (a.add (i * P.cellsOf e)) (P.cellsOf e) with
      | none => simp [hcs] at g1
      | some es =>
        simp [hcs] at g1
        obtain ⟨k1, k2⟩ := cells?_at hcs
        have hlt : i < ys.length := by omega
        rw [List.getElem?_eq_getElem hlt] at g2
        have hww := hwa i (by simpa using hlt)
        cases g2
        obtain ⟨q, k3, k4⟩ := he enc w held f es _ g1 (by simpa using hww)
        have g2 : ys[i]? = some ys[i] := List.getElem?_eq_getElem hlt
        exact ⟨q, _, es, g2, k1, k2, k3, k4⟩
    obtain ⟨l, hll, hlp⟩ := choose_list key
    refine ⟨l, ?_, ?_⟩
    · refine ⟨_, rfl, .inr ⟨a, cap, by rw [hll], by rw [hll]; exact hc.2.1, fun i hi => ?_⟩, ?_⟩
      · obtain ⟨y, es, _, k1, k2, k3, _⟩ := hlp i hi
        exact ⟨es, k1, k2, k3⟩
      · have h9 := hw.1
        rw [List.length_map, hl] at h9
        rw [hll]
        exact Nat.le_trans (Nat.mul_le_mul_right _ (Nat.le_add_right _ _)) h9
    · simp only [Rows.uptoBulk]
      have := sum_le_all (b := b) l (ys.map (·.1)) (by simp [hll, hl]) (fun i h1 h2 => by
        obtain ⟨y, es, k0, _, _, _, k4⟩ := hlp i h1
        have h3 : i < ys.length := by simpa using h2
        rw [List.getElem?_eq_getElem h3] at k0
        cases k0
        simpa using k4)
      omega
/-- a struct's fields, one after the other -/
def OpensF (P : Program) (fs : List Field) (α : Type) (R : RepT α) (bulk : α → Nat) : Prop :=
  ∀ {H : Type} (enc : TypeId × Value → H) (w : World) (held : Bool) (fuel : Nat) (cs : List Value) (ys : List (DataW H × List MemPlace)),
    (fs.mapM fun f => DataW.trod enc P w 0 (fun _ => true) held fuel f.type ((cs.drop f.offset).take (P.cellsOf f.type))) = some ys →
    (DataW.weightsEach P (fs.map (·.type)) (ys.map (·.1))).all (· ≤ reachBytes) = true → ∃ a, R w cs a ∧ bulk a ≤ Rows.uptoBulkAll (ys.map (·.1))
theorem opf_nil : OpensF P [] Unit (fun _ _ _ => True) (fun _ => 0) := by
  intro H enc w held fuel cs ys h _
  exact ⟨(), trivial, by simp⟩
theorem opf_cons {f : Field} {fs : List Field} {n : Nat} {α β : Type} {R : RepT α} {S : RepT β} {b : α → Nat} {c : β → Nat} (hn : P.cellsOf f.type = n) (he : Opens P f.type α R b) (hf : OpensF P fs β S c) :
    OpensF P (f :: fs) (α × β) (fun w cs x => R w ((cs.drop f.offset).take n) x.1 ∧ S w cs x.2) (fun x => b x.1 + c x.2) := by
  intro H enc w held fuel cs ys h hw
  rw [List.mapM_cons] at h
  cases h1 : DataW.trod enc P w 0 (fun _ => true) held fuel f.type ((cs.drop f.offset).take (P.cellsOf f.type)) with
  | none => simp [h1] at h
  | some y =>
    simp only [h1] at h
    cases h2 : (fs.mapM fun f => DataW.trod enc P w 0 (fun _ => true) held fuel f.type ((cs.drop f.offset).take (P.cellsOf f.type))) with
    | none => simp [h2] at h
    | some zs =>
      simp [h2] at h
      subst h
      simp only [List.map_cons, DataW.weightsEach, List.all_append, Bool.and_eq_true] at hw
      obtain ⟨a, k1, k2⟩ := he enc w held fuel _ y h1 hw.1
      obtain ⟨a', k3, k4⟩ := hf enc w held fuel cs zs h2 hw.2
      rw [hn] at k1
      exact ⟨(a, a'), ⟨k1, k3⟩, by simp only [List.map_cons, Rows.uptoBulkAll]; omega⟩
theorem op_struct {t : TypeId} {fs : Array Field} {n : Nat} {α : Type} {R : RepT α} {b : α → Nat} (hu : P.underlying t = some (.struct fs)) (hn : P.cellsOf t = n) (hf : OpensF P fs.toList α R b) : Opens P t α (fun w cs x => cs.length = n ∧ R w cs x) (fun x => b x + 1) := by
  intro H enc w held fuel cs x h hw
  obtain ⟨f, rfl, h⟩ := step_of h
  rw [DataW.trod_step] at h
  unfold DataW.trodStep at h
  simp only [hu, hn] at h
  simp only [Option.ite_none_right_eq_some, Option.map_eq_some_iff] at h
  obtain ⟨hc, ys, hy, rfl⟩ := h
  have hf' : (fs.toList.mapM fun f' => DataW.trod enc P w 0 (fun _ => true) held f f'.type ((cs.drop f'.offset).take (P.cellsOf f'.type))) = some ys := by simpa using hy
  simp only [DataW.weights, hu] at hw
  obtain ⟨a, k1, k2⟩ := hf enc w held f cs ys hf' hw
  exact ⟨a, ⟨hc, k1⟩, by simp only [Rows.uptoBulk]; omega⟩
theorem Opens.mono {t : TypeId} {α : Type} {β : Type} {R : RepT α} {S : RepT β} {b : α → Nat} {c : β → Nat} (h : Opens P t α R b) (f : ∀ w cs a, R w cs a → ∃ x, S w cs x ∧ c x ≤ b a) : Opens P t β S c := by
  intro H enc w held fuel cs x hx hw
  obtain ⟨a, h1, h2⟩ := h enc w held fuel cs x hx hw
  obtain ⟨y, h3, h4⟩ := f w cs a h1
  exact ⟨y, h3, Nat.le_trans h4 h2⟩
end
/-- an argument of one cell -/
theorem open_one {P : Program} {t : TypeId} {α : Type} {R : RepT α} {b : α → Nat} (h : Opens P t α R b) (hs : isSc P t = true) (h1 : ∀ w cs a, R w cs a → ∃ v, cs = [v])
    {H : Type} {enc : TypeId × Value → H} {W : World} {held : Bool} {r : Reach} {b0 : Nat} {v : Value} {d : DataW H} {ps : List MemPlace}
    (hv : Value.okWide P W r b0 t v) (hd : DataW.Trod enc P W 0 (fun _ => true) held t v d ps) (hw : (d.weights P t).all (· ≤ reachBytes) = true) : ∃ a, R W [v] a ∧ b a ≤ Rows.uptoBulk d := by
  obtain ⟨fuel, hf⟩ := hd
  obtain ⟨a, h2, h3⟩ := h enc W held fuel _ _ hf hw
  refine ⟨a, ?_, h3⟩
  suffices v.cells = #[v] by rw [this] at h2; exact h2
  cases v with
  | agg cs =>
    exfalso
    unfold isSc at hs
    unfold Value.okWide at hv
    cases hu : P.underlying t with
    | none => simp [hu] at hs
    | some u => cases u <;> simp [hu] at hs <;> simp [hu, Cell.okWide, Cell.ok] at hv
  | _ => rfl
end Sh
end Go.Proofs.YtongpnolikkknaaGreatDoor

namespace Go.Proofs.YtongpnolikkknaaGreatDoor
namespace Sh
open RowKit
theorem wrap_u8 {x : Int} : IntKind.u8.wrap x = x % 256 := by
  unfold IntKind.wrap
  simp [IntKind.signed, IntKind.bits]
theorem wrap_u64 {x : Int} : IntKind.u64.wrap x = x % 18446744073709551616 := by
  unfold IntKind.wrap
  simp [IntKind.signed, IntKind.bits]
theorem Below_nil {w w' : World} (h : w.grownBy w' (Value.slice none 0 0).ownBlock) : Below w.heap.size w w' := (Below.refl _ _).grown h (Nat.le_refl _) (fun k hk => by cases hk)
theorem of_drw {B : Nat} {w w' : World} (h : Below B (drw w) w') : Below B w w' := ⟨h.os, h.tape, h.output, h.size, h.block⟩
section
variable {P : Program} {w : World} {Q : Value → World → Prop} {K : Value → M} {K0 : M} {B : Nat}
theorem smr_run {s : Sem Value} {v : Value} (h : s.run P w = .ok v w) : smr P s K w Q = K v w Q := by
  rw [smr_e, h]
  apply propext
  constructor
  · rintro ⟨v', h1, h2⟩; cases h1; exact h2
  · intro h2; exact ⟨v, rfl, h2⟩
theorem pn_eq {t : TypeId} {p : Option Addr} {x y : Operand} (h : P.underlying t = some (.pointer (P.pointee t))) :
    smr P (do eqGuard .eql t x y (.pointer p) (.pointer none); binOp .eql t (.pointer p) (.pointer none)) K w Q = K (.bool p.isNone) w Q :=
  smr_run (by simp [eqGuard, run_eql_pointer_nil w t p h])
/-- an element of a row of the call's own stored -/
theorem ia_st {e : TypeId} {k j : IntKind} {v : Value} {l : List Int} {i : Nat} {x : Int} (h : ownI B e k w v l) (hi : i < l.length)
    (kk : ∀ w', ownI B e k w' v (l.set i x) → (∃ g, v.ownBlock = some g ∧ B ≤ g ∧ g < w.heap.size ∧ Upd g w w') → K0 w' Q) : ia 1 v (.int j (i : Int)) (fun p => st p (.int k x) K0) w Q := by
  obtain ⟨h1, h2⟩ := h
  rcases h2 with ⟨rfl, h0⟩ | ⟨g, cap, cur, rfl, hg, hb, hn, hm, hs, ht⟩
  · omega
  · rw [ia_e]
    refine ⟨by omega, by omega, ?_⟩
    rw [Int.toNat_natCast, Nat.mul_one, add_lit, Nat.zero_add]
    simp only [Nat.mul_one] at hs ht
    refine st_box hb (by omega) rfl fun w' hw hu => ?_
    refine kk w' ?_ ⟨g, rfl, hg, blk_lt hb, hu⟩
    refine ⟨by simp, .inr ⟨g, cap, cur.setIfInBounds i (.int k x), by simp, hg, hw, by simpa using hn, hm, by simp [hs], ?_⟩⟩
    have hl : (cur.setIfInBounds i (.int k x)).toList = cur.toList.set i (.int k x) := by simp
    rw [hl, List.length_set, Nat.mul_one, List.take_set, ht, List.map_set]
/-- the same row behind a change of a block that isn't its own -/
theorem ownI_chg {e : TypeId} {k : IntKind} {v : Value} {l : List Int} {p : Nat} {w' : World} (h : ownI B e k w v l) (hc : Chg p w w') (hp : v.ownBlock ≠ some p) : ownI B e k w' v l := by
  obtain ⟨h1, h2⟩ := h
  refine ⟨h1, ?_⟩
  rcases h2 with h2 | ⟨g, cap, cur, rfl, hg, hb, rest⟩
  · exact .inl h2
  · refine .inr ⟨g, cap, cur, rfl, hg, hc.keep hb (fun e => hp (by rw [e]; rfl)), rest⟩
theorem or_run {a b : Nat} (ha : a < 18446744073709551616) (hb : b < 18446744073709551616) : bws .or .u64 (.int .u64 (a : Int)) (.int .u64 (b : Int)) K w Q = K (.int .u64 ((a ||| b : Nat) : Int)) w Q := by
  have e : ∀ (P : Program) (w : World), (Op.intBits .or .u64 (a : Int) (b : Int)).run P w = .ok (.int .u64 ((a ||| b : Nat) : Int)) w := fun P w => by
    rw [Go.intBits_or, bits_or_u64_nat a b ha hb]; rfl
  apply propext
  constructor
  · rintro ⟨a', b', v, h1, h2, h3, h4⟩
    cases h1; cases h2
    have := (h3 default w).symm.trans (e _ w)
    cases this
    exact h4
  · intro h; exact ⟨_, _, _, rfl, rfl, e, h⟩
/-- the first of a slice -/
theorem sll_S {α : Type} {n : Nat} {R : RepT α} {v : Value} {l : List α} {k : Nat} {j : IntKind} (h : rdS n R w v l) (hk : k ≤ l.length) (kk : ∀ v', rdS n R w v' (l.take k) → K v' w Q) : sll n v none (some (.int j (k : Int))) K w Q := by
  rcases h with ⟨rfl, rfl⟩ | ⟨a, c, rfl, hcc, h⟩
  · have : k = 0 := by simpa using hk
    subst this
    refine ⟨none, 0, 0, 0, 0, rfl, ⟨_, _, rfl, by omega, by omega, by omega⟩, rfl, ?_⟩
    exact kk _ (.inl ⟨by simp, by simp⟩)
  · refine ⟨some a, l.length, c, 0, k, rfl, ⟨_, _, rfl, by omega, by omega, by omega⟩, rfl, ?_⟩
    have ev : (if c = 0 then some a else (some a).map (·.add (0 * n))) = some a := by split <;> simp [add_zero']
    rw [ev, Nat.sub_zero, Nat.sub_zero]
    refine kk _ (.inr ⟨a, c, by rw [List.length_take, Nat.min_eq_left hk], by rw [List.length_take]; omega, fun i hi => ?_⟩)
    have hi' : i < l.length := by simp at hi; omega
    obtain ⟨es, h1, h2, h3⟩ := h i hi'
    exact ⟨es, h1, h2, by simpa using h3⟩
end
end Sh
end Go.Proofs.YtongpnolikkknaaGreatDoor

set_option maxRecDepth 20000
namespace Go.Proofs.YtongpnolikkknaaGreatDoor
open Sh RowKit

theorem q_cong {Q : Value → World → Prop} {w : World} {b c : Bool} (h : b = c) (hq : Q (.bool b) w) : Q (.bool c) w := h ▸ hq
theorem u36 : Tryz.prog.underlying 183 = some (.pointer (Tryz.prog.pointee 183)) := by kernel_rfl
theorem u5 : Tryz.prog.underlying 5 = some (.int .u8) := by kernel_rfl
/-- how many bytes a number has -/
def wd (k : Int) : Int := if 8 < (if k < 1 then 1 else k) then 8 else (if k < 1 then 1 else k)
theorem wd_bd (k : Int) : 1 ≤ wd k ∧ wd k ≤ 8 := by unfold wd; split <;> split <;> omega
theorem f163_s (k : Int) (w : World) (Q : Value → World → Prop) (h : Q (.int .i64 (wd k)) w) : f163 (.int .i64 k) w Q := by
  unfold f163
  simp only [↓reduceIte, ↓LL, LM, Value.cells, Nat.reduceAdd, Option.some.injEq, exists_eq_left', decide_true, decide_false, if_true, if_false, reduceCtorEq, cond_true, cond_false]
  exact h
/-- the low k bytes of a number, the highest first -/
def nb (n : Nat) : Nat → List Int
  | 0 => []
  | k + 1 => ((n / 256 ^ k % 256 : Nat) : Int) :: nb n k
theorem nb_len (n : Nat) : ∀ k, (nb n k).length = k
  | 0 => rfl
  | k + 1 => by simp [nb, nb_len n k]
theorem nb_bd (n : Nat) : ∀ k, ∀ x ∈ nb n k, 0 ≤ x ∧ x ≤ 255
  | 0, x, h => by simp [nb] at h
  | k + 1, x, h => by
    rcases List.mem_cons.1 h with rfl | h
    · omega
    · exact nb_bd n k x h
theorem pow8 (i : Nat) : (2 : Nat) ^ (8 * i) = 256 ^ i := by rw [Nat.pow_mul]
theorem shr_by (n i : Nat) (hi : i ≤ 8) : (n : Int).fdiv (2 ^ (min ((8 * (i : Int)).toNat) (IntKind.u64.bits))) = ((n / 256 ^ i : Nat) : Int) := by
  have e : min ((8 * (i : Int)).toNat) (IntKind.u64.bits) = 8 * i := by
    show min _ 64 = _
    omega
  rw [e, Int.fdiv_eq_ediv_of_nonneg _ (by exact_mod_cast Nat.zero_le _)]
  rw [← pow8]
  push_cast
  rfl

theorem num_loop (j1 : Value → M) {Q : Value → World → Prop} {B : Nat} {n : Nat} : ∀ (k m : Nat) (v : Value) (l : List Int) (w : World), k ≤ 8 → k < m → B ≤ w.heap.size → ownI B 5 .u8 w v l → l.length + k ≤ 140737488355328 →
    (∀ v' w', ownI B 5 .u8 w' v' (l ++ nb n k) → Below B w w' → j1 v' w' Q) → itr (fun _ _ _ => bot) (f147_b2 j1) m v (.int .u64 (n : Int)) (.int .i64 ((k : Int) - 1)) w Q := by
  intro k
  induction k with
  | zero =>
    intro m v l w hk hm hB ho hl kk
    obtain ⟨m, rfl⟩ : ∃ x, m = x + 1 := ⟨m - 1, by omega⟩
    show f147_b2 j1 _ _ _ _ w Q
    unfold f147_b2
    have : ¬ (0 : Int) ≤ ((0 : Nat) : Int) - 1 := by omega
    simp only [↓reduceIte, ↓LL, LM, Value.cells, Nat.reduceAdd, Option.some.injEq, exists_eq_left', decide_true, decide_false, if_true, if_false, reduceCtorEq, cond_true, cond_false, this]
    exact kk _ _ (by simpa [nb] using ho) (Below.refl _ _)
  | succ k ih =>
    intro m v l w hk hm hB ho hl kk
    obtain ⟨m, rfl⟩ : ∃ x, m = x + 1 := ⟨m - 1, by omega⟩
    show f147_b2 j1 _ _ _ _ w Q
    unfold f147_b2
    have e1 : ((k + 1 : Nat) : Int) - 1 = (k : Int) := by omega
    have e2 : IntKind.i64.wrap (8 * (k : Int)) = 8 * (k : Int) := w64 (by omega) (by omega)
    have e3 : IntKind.i64.wrap ((k : Int) - 1) = (k : Int) - 1 := w64 (by omega) (by omega)
    have h0 : (0 : Int) ≤ (k : Int) := by omega
    have h1 : (0 : Int) ≤ 8 * (k : Int) := by omega
    simp only [↓reduceIte, ↓LL, LM, Value.cells, Nat.reduceAdd, Option.some.injEq, exists_eq_left', decide_true, decide_false, if_true, if_false, reduceCtorEq, cond_true, cond_false, e1, e2, e3, h0, shr_e, h1, shr_by n k (by omega), true_and, wrap_u8]
    refine bsl1 slt42 rfl rfl ?_
    have hp0 := blk_psh_new (w := w) (o := .cells #[.int .u8 (((n / 256 ^ k : Nat) : Int) % 256)] 5)
    have ho1 := ownI_psh ho (.cells #[.int .u8 (((n / 256 ^ k : Nat) : Int) % 256)] 5)
    have hb1 := b_psh w (.cells #[.int .u8 (((n / 256 ^ k : Nat) : Int) % 256)] 5)
    refine ap_rd (m := [((n / 256 ^ k : Nat) : Int) % 256]) slt42 ho1 (.inr ⟨⟨w.heap.size, 0, none⟩, 1, rfl, fun i hi => ?_⟩) (by simp; omega) (by simp; omega) (by rw [size_psh]; omega) ?_
    · have : i = 0 := by simpa using hi
      subst this
      rw [add_lit, cell_psh_new]; rfl
    · intro v' w' ho' hg
      have hb2 : Below B w w' := Below_grown (bt' (Below.refl _ _) hB hb1) ho1 (by rw [size_psh]; omega) hg
      simp only [↓reduceIte, ↓LL, LM, Value.cells, Nat.reduceAdd, Option.some.injEq, exists_eq_left', decide_true, decide_false, if_true, if_false, reduceCtorEq, cond_true, cond_false, e3]
      refine ih m v' _ w' (by omega) (by omega) (Nat.le_trans hB hb2.size) ho' (by simp; omega) ?_
      intro v'' w'' ho'' hb3
      refine kk _ _ ?_ (hb2.trans hb3)
      simp only [nb]
      rw [List.append_assoc] at ho''
      simpa using ho''
theorem f147_s {B : Nat} (n : Nat) (k : Int) (v : Value) (l : List Int) (w : World) (Q : Value → World → Prop) (hB : B ≤ w.heap.size) (ho : ownI B 5 .u8 w v l) (hl : l.length + 8 ≤ 140737488355328)
    (h : ∀ v' w', ownI B 5 .u8 w' v' (l ++ nb n (wd k).toNat) → Below B w w' → Q v' w') : f147 v (.int .u64 (n : Int)) (.int .i64 k) w Q := by
  unfold f147
  simp only [↓cl_e]
  refine f163_s k _ _ ?_
  have bd := wd_bd k
  have e : IntKind.i64.wrap (wd k - 1) = (((wd k).toNat : Nat) : Int) - 1 := by rw [w64 (by omega) (by omega)]; omega
  simp only [↓reduceIte, ↓LL, LM, Value.cells, Nat.reduceAdd, Option.some.injEq, exists_eq_left', decide_true, decide_false, if_true, if_false, reduceCtorEq, cond_true, cond_false, e]
  refine ⟨_, num_loop _ (wd k).toNat _ v l w (by omega) (Nat.lt_succ_self _) hB ho (by omega) ?_⟩
  intro v' w' ho' hb
  unfold f147_j1
  rw [rt_e]
  exact h _ _ ho' hb
/-- a text as bytes -/
def sb (s : ByteArray) : List Int := ((min s.size 255 : Nat) : Int) :: (byL s).take 255
theorem bnd_hi {d m j : Nat} (h : j ≤ m) : bnd (some (.int .i64 (j : Int))) d m j := ⟨_, _, rfl, by omega, by omega, by omega⟩
theorem bnd_none {d m : Nat} : bnd none d m d := rfl
/-- a number is told whole -/
def fitB (n : Nat) (k : Int) : Bool := decide (n < 256 ^ (wd k).toNat)
theorem f164_s (n : Nat) (hn : n < 18446744073709551616) (k : Int) (w : World) (Q : Value → World → Prop) (h : Q (.bool (fitB n k)) w) : f164 (.int .u64 (n : Int)) (.int .i64 k) w Q := by
  unfold f164
  simp only [↓cl_e]
  refine f163_s k _ _ ?_
  have bd := wd_bd k
  have e1 : IntKind.i64.wrap (8 * wd k) = 8 * wd k := w64 (by omega) (by omega)
  have e2 : IntKind.i64.wrap (8 * wd k - 1) = 8 * wd k - 1 := w64 (by omega) (by omega)
  have h0 : (0 : Int) ≤ 8 * wd k - 1 := by omega
  have h1 : (0 : Int) ≤ 1 := by omega
  simp only [↓reduceIte, ↓LL, LM, Value.cells, Nat.reduceAdd, Option.some.injEq, exists_eq_left', decide_true, decide_false, if_true, if_false, reduceCtorEq, cond_true, cond_false, e1, e2, shr_e, h0, h1, true_and]
  have e3 : min (8 * wd k - 1).toNat IntKind.u64.bits = 8 * (wd k).toNat - 1 := by show min _ 64 = _; omega
  have e4 : min (1 : Int).toNat IntKind.u64.bits = 1 := rfl
  rw [e3, e4]
  have p1 : ∀ x y : Nat, (x : Int).fdiv (2 ^ y) = ((x / 2 ^ y : Nat) : Int) := fun x y => by
    rw [Int.fdiv_eq_ediv_of_nonneg _ (by exact_mod_cast Nat.zero_le _)]
    push_cast
    rfl
  rw [p1, p1, Nat.div_div_eq_div_mul, ← Nat.pow_add, show 8 * (wd k).toNat - 1 + 1 = 8 * (wd k).toNat from by omega, pow8]
  refine q_cong ?_ h
  unfold fitB
  rw [Bool.eq_iff_iff, decide_eq_true_eq, decide_eq_true_eq]
  have : n / 256 ^ (wd k).toNat = 0 ↔ n < 256 ^ (wd k).toNat := by
    rw [Nat.div_eq_zero_iff]
    have : 256 ^ (wd k).toNat ≠ 0 := Nat.pos_iff_ne_zero.1 (Nat.pow_pos (by decide))
    omega
  rw [← this]
  omega
end Go.Proofs.YtongpnolikkknaaGreatDoor

set_option maxRecDepth 20000
namespace Go.Proofs.YtongpnolikkknaaGreatDoor
open Sh RowKit

def nos : ByteArray := ⟨#[]⟩
def rC (s : ByteArray) (e : Int) : Array Value := #[.string s, .int .i64 e]
/-- what is taken of a reader: the text, whether it was there, what is left, the error -/
def take (s : ByteArray) (e : Int) (k : Nat) : ByteArray × Bool × ByteArray × Int :=
  if e = 0 then (if s.size < k then (nos, false, s, 2) else (s.extract 0 k, true, s.extract k s.size, 0)) else (nos, false, s, e)
theorem f162_s (p : Nat) (s : ByteArray) (e : Int) (k : Nat) (w : World) (Q : Value → World → Prop) (hp : w.heap[p]? = some (.cells (rC s e) 206 (0, 0)))
    (h : ∀ w', w'.heap[p]? = some (.cells (rC (take s e k).2.2.1 (take s e k).2.2.2) 206 (0, 0)) → Chg p w w' → Q (.tuple #[.string (take s e k).1, .bool (take s e k).2.1]) w') : f162 (.pointer (some ⟨p, 0, none⟩)) (.int .i64 (k : Int)) w Q := by
  unfold f162
  have c0 := cell_of_blk (n := 0) hp
  have c1 := cell_of_blk (n := 1) hp
  rw [pn_eq u36]
  simp only [↓reduceIte, ↓LL, LM, Value.cells, Nat.reduceAdd, Option.some.injEq, exists_eq_left', decide_true, decide_false, if_true, if_false, reduceCtorEq, cond_true, cond_false, Option.isNone_some, c0, c1, rC]
  by_cases he : e = 0
  · subst he
    by_cases c : s.size < k
    · have c' : (s.size : Int) < (k : Int) := by omega
      simp only [↓reduceIte, ↓LL, LM, Value.cells, Nat.reduceAdd, Option.some.injEq, exists_eq_left', decide_true, decide_false, if_true, if_false, reduceCtorEq, cond_true, cond_false, ne_eq, c', not_true_eq_false, c0, c1, rC]
      refine st_box hp (by simp [rC]) rfl fun w' h1 hu => ?_
      try simp only [↓reduceIte, ↓LL, LM, Value.cells, Nat.reduceAdd, Option.some.injEq, exists_eq_left', decide_true, decide_false, if_true, if_false, reduceCtorEq, cond_true, cond_false]
      have := h w'
      simp only [take, if_true, c] at this
      exact this h1 hu.chg
    · have c' : ¬ (s.size : Int) < (k : Int) := by omega
      simp only [↓reduceIte, ↓LL, LM, Value.cells, Nat.reduceAdd, Option.some.injEq, exists_eq_left', decide_true, decide_false, if_true, if_false, reduceCtorEq, cond_true, cond_false, ne_eq, c', not_true_eq_false, c0, c1, rC]
      refine ⟨s, 0, k, rfl, bnd_hi (by omega), bnd_none, ?_⟩
      simp only [↓reduceIte, ↓LL, LM, Value.cells, Nat.reduceAdd, Option.some.injEq, exists_eq_left', decide_true, decide_false, if_true, if_false, reduceCtorEq, cond_true, cond_false, c0, c1, rC]
      refine ⟨s, k, s.size, rfl, bnd_none, bnd_hi (by omega), ?_⟩
      try simp only [↓reduceIte, ↓LL, LM, Value.cells, Nat.reduceAdd, Option.some.injEq, exists_eq_left', decide_true, decide_false, if_true, if_false, reduceCtorEq, cond_true, cond_false]
      refine st_box hp (by simp [rC]) rfl fun w' h1 hu => ?_
      try simp only [↓reduceIte, ↓LL, LM, Value.cells, Nat.reduceAdd, Option.some.injEq, exists_eq_left', decide_true, decide_false, if_true, if_false, reduceCtorEq, cond_true, cond_false]
      have := h w'
      simp only [take, if_true, c, if_false] at this
      exact this h1 hu.chg
  · simp only [↓reduceIte, ↓LL, LM, Value.cells, Nat.reduceAdd, Option.some.injEq, exists_eq_left', decide_true, decide_false, if_true, if_false, reduceCtorEq, cond_true, cond_false, ne_eq, he, not_false_eq_true]
    have := h w
    simp only [take, he, if_false] at this
    exact this hp (Chg.refl _ _)
theorem max0 (k : Int) : (if k < 0 then (0 : Int) else k) = ((k.toNat : Nat) : Int) := by split <;> omega
theorem f139_s (p : Nat) (s : ByteArray) (e : Int) (k : Int) (w : World) (Q : Value → World → Prop) (hp : w.heap[p]? = some (.cells (rC s e) 206 (0, 0)))
    (h : ∀ w', w'.heap[p]? = some (.cells (rC (take s e k.toNat).2.2.1 (take s e k.toNat).2.2.2) 206 (0, 0)) → Chg p w w' → Q (.string (take s e k.toNat).1) w') : f139 (.pointer (some ⟨p, 0, none⟩)) (.int .i64 k) w Q := by
  unfold f139
  simp only [↓reduceIte, ↓LL, LM, Value.cells, Nat.reduceAdd, Option.some.injEq, exists_eq_left', decide_true, decide_false, if_true, if_false, reduceCtorEq, cond_true, cond_false, max0]
  refine f162_s p s e _ _ _ hp fun w' h1 hc => ?_
  try simp only [↓reduceIte, ↓LL, LM, Value.cells, Nat.reduceAdd, Option.some.injEq, exists_eq_left', decide_true, decide_false, if_true, if_false, reduceCtorEq, cond_true, cond_false]
  exact h w' h1 hc
/-- bytes as a number -/
def ofB : List Int → Nat → Nat
  | [], n => n
  | x :: r, n => ofB r (256 * n + x.toNat)
theorem or_add (n x : Nat) (hx : x < 256) : (256 * n) ||| x = 256 * n + x := by
  have := Nat.two_pow_add_eq_or_of_lt (i := 8) (b := x) (by simpa using hx) n
  simpa using this.symm
theorem rdn_loop (j1 : Value → M) {Q : Value → World → Prop} {v : Value} {w : World} {l : List Int} (hr : rdI .u8 w v l) (hb : ∀ x ∈ l, 0 ≤ x ∧ x ≤ 255) (hl : l.length ≤ 8) : ∀ (d m i n : Nat), i + d = l.length → d < m → n < 256 ^ i →
    j1 (.int .u64 (ofB (l.drop i) n : Nat)) w Q → itr (fun _ _ _ _ => bot) (f138_b2 j1) m (.int .u64 (n : Int)) v (.int .i64 l.length) (.int .i64 i) w Q := by
  intro d
  induction d with
  | zero =>
    intro m i n hi hm hn k
    obtain ⟨m, rfl⟩ : ∃ x, m = x + 1 := ⟨m - 1, by omega⟩
    show f138_b2 j1 _ _ _ _ _ w Q
    unfold f138_b2
    have : ¬ (i : Int) < l.length := by omega
    simp only [↓reduceIte, ↓LL, LM, Value.cells, Nat.reduceAdd, Option.some.injEq, exists_eq_left', decide_true, decide_false, if_true, if_false, reduceCtorEq, cond_true, cond_false, this]
    rw [List.drop_of_length_le (by omega)] at k
    exact k
  | succ d ih =>
    intro m i n hi hm hn k
    obtain ⟨m, rfl⟩ : ∃ x, m = x + 1 := ⟨m - 1, by omega⟩
    show f138_b2 j1 _ _ _ _ _ w Q
    unfold f138_b2
    have hlt : (i : Int) < l.length := by omega
    simp only [↓reduceIte, ↓LL, LM, Value.cells, Nat.reduceAdd, Option.some.injEq, exists_eq_left', decide_true, decide_false, if_true, if_false, reduceCtorEq, cond_true, cond_false, hlt]
    refine ia_ld hr (by omega) hlt fun hh => ?_
    have h1 : IntKind.i64.wrap ((i : Int) + 1) = ((i + 1 : Nat) : Int) := by rw [w64 (by omega) (by omega)]; rfl
    have hx := hb _ (List.getElem_mem hh)
    have e0 : (i : Int).toNat = i := rfl
    have hp : 256 ^ i ≤ 256 ^ 7 := Nat.pow_le_pow_right (by decide) (by omega)
    have e2 : IntKind.u64.wrap ((n : Int) * 2 ^ (min (8 : Int).toNat IntKind.u64.bits)) = ((256 * n : Nat) : Int) := by
      rw [show min (8 : Int).toNat IntKind.u64.bits = 8 from rfl, wrap_u64]
      omega
    have e3 : IntKind.u64.wrap l[(i : Int).toNat] = (((l[(i : Int).toNat]).toNat : Nat) : Int) := by rw [wrap_u64]; omega
    have h8 : (0 : Int) ≤ 8 := by decide
    simp only [↓reduceIte, ↓LL, LM, Value.cells, Nat.reduceAdd, Option.some.injEq, exists_eq_left', decide_true, decide_false, if_true, if_false, reduceCtorEq, cond_true, cond_false, shl_e, h8, true_and, e2, e3]
    rw [or_run (by omega) (by omega), or_add _ _ (by omega)]
    simp only [↓reduceIte, ↓LL, LM, Value.cells, Nat.reduceAdd, Option.some.injEq, exists_eq_left', decide_true, decide_false, if_true, if_false, reduceCtorEq, cond_true, cond_false, h1]
    refine ih m (i + 1) _ (by omega) (by omega) (by rw [Nat.pow_succ]; omega) ?_
    rw [List.drop_eq_getElem_cons (show i < l.length by omega)] at k
    exact k
theorem take_size (s : ByteArray) (e : Int) (k : Nat) : (take s e k).1.size ≤ k := by
  unfold take
  split
  · split
    · exact Nat.zero_le _
    · rw [ByteArray.size_extract]; omega
  · exact Nat.zero_le _
theorem f138_s (p : Nat) (s : ByteArray) (e : Int) (k : Int) (w : World) (Q : Value → World → Prop) (hp : w.heap[p]? = some (.cells (rC s e) 206 (0, 0)))
    (h : ∀ w', w'.heap[p]? = some (.cells (rC (take s e (wd k).toNat).2.2.1 (take s e (wd k).toNat).2.2.2) 206 (0, 0)) → Chg p w w' → Q (.int .u64 (ofB (byL (take s e (wd k).toNat).1) 0 : Nat)) w') : f138 (.pointer (some ⟨p, 0, none⟩)) (.int .i64 k) w Q := by
  unfold f138
  try simp only [↓reduceIte, ↓LL, LM, Value.cells, Nat.reduceAdd, Option.some.injEq, exists_eq_left', decide_true, decide_false, if_true, if_false, reduceCtorEq, cond_true, cond_false]
  refine f163_s k _ _ ?_
  have bd := wd_bd k
  rw [show wd k = (((wd k).toNat : Nat) : Int) from by omega]
  try simp only [↓reduceIte, ↓LL, LM, Value.cells, Nat.reduceAdd, Option.some.injEq, exists_eq_left', decide_true, decide_false, if_true, if_false, reduceCtorEq, cond_true, cond_false]
  refine f162_s p s e _ _ _ hp fun w' h1 hc => ?_
  try simp only [↓reduceIte, ↓LL, LM, Value.cells, Nat.reduceAdd, Option.some.injEq, exists_eq_left', decide_true, decide_false, if_true, if_false, reduceCtorEq, cond_true, cond_false]
  refine cvs st9 slt42 u5 fun v w1 hr hb => ?_
  refine lnl_rd hr ?_
  rw [jn_e]
  have hts := take_size s e (wd k).toNat
  refine ⟨_, rdn_loop (i := 0) _ hr (fun x hx => byL_nn hx) (by rw [byL_len]; omega) _ _ 0 (Nat.zero_add _) (Nat.lt_succ_self _) (by decide) ?_⟩
  unfold f138_j1
  rw [rt_e]
  exact h _ (stay hb h1) (hc.trans (.of_below hb))
theorem f141_s (p : Nat) (s : ByteArray) (e : Int) (w : World) (Q : Value → World → Prop) (hp : w.heap[p]? = some (.cells (rC s e) 206 (0, 0))) (h : Q (.int .i64 e) w) : f141 (.pointer (some ⟨p, 0, none⟩)) w Q := by
  unfold f141
  have c1 := cell_of_blk (n := 1) hp
  rw [pn_eq u36]
  simp only [↓reduceIte, ↓LL, LM, Value.cells, Nat.reduceAdd, Option.some.injEq, exists_eq_left', decide_true, decide_false, if_true, if_false, reduceCtorEq, cond_true, cond_false, Option.isNone_some, c1, rC]
  exact h
theorem f140_s (p : Nat) (s : ByteArray) (e : Int) (w : World) (Q : Value → World → Prop) (hp : w.heap[p]? = some (.cells (rC s e) 206 (0, 0))) (h : Q (.int .i64 s.size) w) : f140 (.pointer (some ⟨p, 0, none⟩)) w Q := by
  unfold f140
  have c0 := cell_of_blk (n := 0) hp
  rw [pn_eq u36]
  simp only [↓reduceIte, ↓LL, LM, Value.cells, Nat.reduceAdd, Option.some.injEq, exists_eq_left', decide_true, decide_false, if_true, if_false, reduceCtorEq, cond_true, cond_false, Option.isNone_some, c0, rC]
  exact h
theorem build52 (s : ByteArray) (w : World) : (Instr.build 206 #[(0, .string s)]).run Tryz.prog w = .ok (.agg (rC s 0)) w := by
  kernel_rfl
theorem f137_s (s : ByteArray) (w : World) (Q : Value → World → Prop) (h : ∀ p w', p = w.heap.size → w'.heap[p]? = some (.cells (rC s 0) 206 (0, 0)) → Below w.heap.size w w' → Q (.pointer (some ⟨p, 0, none⟩)) w') : f137 (.string s) w Q := by
  unfold f137
  rw [smr_run (build52 s w)]
  try simp only [↓reduceIte, ↓LL, LM, Value.cells, Nat.reduceAdd, Option.some.injEq, exists_eq_left', decide_true, decide_false, if_true, if_false, reduceCtorEq, cond_true, cond_false]
  exact h _ _ rfl blk_psh_new (b_psh _ _)
end Go.Proofs.YtongpnolikkknaaGreatDoor
