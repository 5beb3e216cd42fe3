/- Functions as predicate transformers, and that the machine does what they say, by program. -/
import Derived.Test.YtongpnolikkknaaGreatDoorZ0
set_option linter.unusedVariables false
set_option linter.unusedSimpArgs false
set_option linter.unusedSectionVars false
set_option maxRecDepth 20000
set_option maxHeartbeats 4000000
namespace Go.Proofs.YtongpnolikkknaaGreatDoor
open Sh
attribute [local irreducible] wpL anyG act jn lo gdB amb kp smr nc fa ld ldn st stn ad su mu qu re lt le gt ge eqi nei bws shl shr cat eqs nes lts gts eqb neb nt pk cv al bx ex fld fldn lnl lns ia iaa ixs sls sll sla mif mnm mxm mm asrt sm smu cl cc cf ci cnd gd gdu
def f112_b2 (j1 : Value → M) (self2 : Value → Value → Value → Value → Value → Value → M) (t0_1 t1_1 t9 t17 t18_1 t19 : Value) : M := lt .i64 t19 t18_1 fun t20 => cnd t20 ( ia 1 t17 t19 fun t22 => ld t22 fun t23 => cf Tryz.prog t1_1 #[t19] fun t28 => cl (f119 t0_1 t28 t23) fun t30 => sm Tryz.prog (Instr.buildSlice 138 1 #[(0, t30)]) fun t31 => sm Tryz.prog (Builtin.append_ #[138, 138] 138 #[t9, t31]) fun t32 => ad .i64 t19 (.int .i64 1) fun t33 => self2 t0_1 t1_1 t32 t17 t18_1 t33 ) ( j1 t9 )
def f112_j1 (t9_1 : Value) : M := rt t9_1
def f112 (t0 t1 t2 : Value) : M := cl (f144 t2) fun t14 => ex 0 t14 fun t15 => ex 1 t14 fun t16 => lnl t15 fun t18 => jn (fun (j1 : Value → M) => lo (fun _ _ _ _ _ _ => bot) (f112_b2 j1) (fun l => l t0 t1 (.slice none 0 0) t15 t18 (.int .i64 0)) ) (f112_j1)
theorem s112 (t0 t1 t2 : Value) (w : World) (Q : Value → World → Prop) (h : f112 t0 t1 t2 w Q) : Calls Tryz.prog 112 #[t0, t1, t2] w (Rt Q) := by
  refine calls_of (l := [t0, t1, t2]) Tryz.func112 rfl Tryz.ntmps112 (Nat.le_of_ble_eq_true rfl) ?_
  unfold f112 at h
  refine wp_seq ?_
  refine L_region ?_
  refine L_as ?_
  refine L_nil ?_
  refine E_n ?_
  refine wp_seq ?_
  refine L_region ?_
  refine L_mv ?_
  refine L_u (N_cl Tryz.func144 rfl nn144 (fun w Q h => s144 _ w Q h) h) ?_
  intro v w h
  refine L_mv ?_
  refine L_u (P_ex h) ?_
  intro v w h
  refine L_u (P_ex h) ?_
  intro v w h
  refine L_as ?_
  refine L_as ?_
  refine L_nil ?_
  refine E_n ?_
  refine wp_seq ?_
  refine L_region ?_
  refine L_as ?_
  refine L_nil ?_
  refine E_n ?_
  refine wp_seq ?_
  refine wp_seq ?_
  refine L_region ?_
  refine L_mv ?_
  refine L_u (P_lnl is100 h) ?_
  intro v w h
  refine L_mv ?_
  refine L_nil ?_
  refine E_n ?_
  refine C_join (fun (k : Value → M) (ρ : Nat → Value) => k (ρ 9)) h (fun j1 J1 h => ?_) (fun ρ w h => ?_)
  · refine C_blk ?_
    refine C_lo (fun (l : Value → Value → Value → Value → Value → Value → M) (ρ : Nat → Value) => l (ρ 0) (ρ 1) (ρ 9) (ρ 17) (ρ 18) (ρ 19)) h (fun ρ w h => h) (fun nx self2 L2 ρ w h => ?_)
    unfold f112_b2 at h
    refine wp_seq ?_
    refine L_region ?_
    refine L_u (P_lt h) ?_
    intro v w h
    refine L_nil ?_
    refine E_n ?_
    refine wp_seq ?_
    refine C_cnd h (fun h => ?_) (fun h => ?_)
    · refine C_skip ?_
      refine E_n ?_
      refine wp_seq ?_
      refine C_blk ?_
      refine wp_seq ?_
      refine L_region ?_
      refine L_mv ?_
      refine L_u (P_ia se100 h) ?_
      intro v w h
      refine L_u (P_ld sc9 h) ?_
      intro v w h
      refine L_as ?_
      refine L_as ?_
      refine L_nil ?_
      refine E_n ?_
      refine L_region ?_
      refine L_mv ?_
      refine L_mv ?_
      refine L_mv ?_
      refine L_mv ?_
      refine L_u (N_cf h) ?_
      intro v w h
      refine L_mv ?_
      refine L_u (N_cl Tryz.func119 rfl nn119 (fun w Q h => s119 _ _ _ w Q h) h) ?_
      intro v w h
      refine L_u (N_bsl h) ?_
      intro v w h
      refine L_u (N_bi rfl h) ?_
      intro v w h
      refine L_as ?_
      refine L_nil ?_
      refine B_n ?_
      refine E_n ?_
      refine L_region ?_
      refine L_u (P_ad h) ?_
      intro v w h
      refine L_mv ?_
      refine L_nil ?_
      refine E_n ?_
      exact L2 _ _ h
    · refine C_exit ?_
      refine E_x ?_
      refine E_x ?_
      refine B_x ?_
      exact J1 _ _ h
  · unfold f112_j1 at h
    refine E_n ?_
    refine wp_seq ?_
    refine L_region ?_
    refine L_mv ?_
    refine L_as ?_
    refine L_nil ?_
    refine E_n ?_
    refine C_ret ?_
    show bodyPost Tryz.prog Tryz.f112 (Rt Q) .ret _ _
    exact post_tmps (ts := [6]) (.inr rfl) rfl h

def f113 (t0 t1 : Value) : M := ld t1 fun t4 => cl (f81 t4 t0) fun t6 => rt t6
theorem s113 (t0 t1 : Value) (w : World) (Q : Value → World → Prop) (h : f113 t0 t1 w Q) : Calls Tryz.prog 113 #[t0, t1] w (Rt Q) := by
  refine calls_of (l := [t0, t1]) Tryz.func113 rfl Tryz.ntmps113 (Nat.le_of_ble_eq_true rfl) ?_
  unfold f113 at h
  refine wp_seq ?_
  refine L_region ?_
  refine L_as ?_
  refine L_nil ?_
  refine E_n ?_
  refine wp_seq ?_
  refine L_region ?_
  refine L_u (P_ld sc3 h) ?_
  intro v w h
  refine L_mv ?_
  refine L_u (N_cl Tryz.func81 rfl nn81 (fun w Q h => s81 _ _ w Q h) h) ?_
  intro v w h
  refine L_as ?_
  refine L_nil ?_
  refine E_n ?_
  refine C_ret ?_
  show bodyPost Tryz.prog Tryz.f113 (Rt Q) .ret _ _
  exact post_tmps (ts := [3]) (.inr rfl) rfl h

def f114_b2 (j1 : Value → M) (self2 : Value → Value → M) (t0_1 t15_1 : Value) : M := sm Tryz.prog (Instr.next t15_1 false 0) fun t16 => ex 0 t16 fun t17 => cnd t17 ( smr Tryz.prog (Instr.entry t15_1) fun t18 => ex 0 t18 fun t19 => ex 1 t18 fun t20 => al 145 (Array.replicate 64 (.int .u8 0)) fun t5 => stn 64 t5 t20 <| dr <| idv t0_1 fun t21 => nc t21 fun t22 => fa 0 t22 fun t23 => ld t23 fun t24 => idv t19 fun t25 => ldn 64 t5 fun t26 => ia 64 t24 t25 fun t27 => stn 64 t27 t26 <| self2 t0_1 t15_1 ) ( j1 t0_1 )
def f114_j1 (t0_2 : Value) : M := nc t0_2 fun t29 => fa 1 t29 fun t30 => ld t30 fun t31 => sm Tryz.prog (Builtin.clear_ #[128] 0 #[t31]) fun _ => rt (.int .i64 0)
def f114 (t0 : Value) : M := cl (f145 t0) fun t7 => nei .i64 t7 (.int .i64 0) fun t9 => cnd t9 ( rt t7 ) ( nc t0 fun t12 => fa 1 t12 fun t13 => ld t13 fun t14 => sm Tryz.prog (Instr.range 128 t14) fun t15 => jn (fun (j1 : Value → M) => lo (fun _ _ => bot) (f114_b2 j1) (fun l => l t0 t15) ) (f114_j1) )
theorem s114 (t0 : Value) (w : World) (Q : Value → World → Prop) (h : f114 t0 w Q) : Calls Tryz.prog 114 #[t0] w (Rt Q) := by
  refine calls_of (l := [t0]) Tryz.func114 rfl Tryz.ntmps114 (Nat.le_of_ble_eq_true rfl) ?_
  unfold f114 at h
  refine wp_seq ?_
  refine L_region ?_
  refine L_as ?_
  refine L_nil ?_
  refine E_n ?_
  refine wp_seq ?_
  refine wp_seq ?_
  refine L_region ?_
  refine L_mv ?_
  refine L_u (N_cl Tryz.func145 rfl nn145 (fun w Q h => s145 _ w Q h) h) ?_
  intro v w h
  refine L_as ?_
  refine L_nil ?_
  refine E_n ?_
  refine wp_seq ?_
  refine L_region ?_
  refine L_mv ?_
  refine L_u (P_nei h) ?_
  intro v w h
  refine L_nil ?_
  refine E_n ?_
  refine C_cnd h (fun h => ?_) (fun h => ?_)
  · refine wp_seq ?_
    refine L_region ?_
    refine L_mv ?_
    refine L_as ?_
    refine L_nil ?_
    refine E_n ?_
    refine C_ret ?_
    show bodyPost Tryz.prog Tryz.f114 (Rt Q) .ret _ _
    exact post_tmps (ts := [2]) (.inr rfl) rfl h
  · refine C_skip ?_
    refine E_n ?_
    refine wp_seq ?_
    refine wp_seq ?_
    refine L_region ?_
    refine L_mv ?_
    refine L_u (P_nc h) ?_
    intro v w h
    refine L_u (P_fa fo130_1 h) ?_
    intro v w h
    refine L_u (P_ld sc128 h) ?_
    intro v w h
    refine L_u (P_sm rfl h) ?_
    intro v w h
    refine L_nil ?_
    refine E_n ?_
    refine C_join (fun (k : Value → M) (ρ : Nat → Value) => k (ρ 0)) h (fun j1 J1 h => ?_) (fun ρ w h => ?_)
    · refine C_blk ?_
      refine C_lo (fun (l : Value → Value → M) (ρ : Nat → Value) => l (ρ 0) (ρ 15)) h (fun ρ w h => h) (fun nx self2 L2 ρ w h => ?_)
      unfold f114_b2 at h
      refine wp_seq ?_
      refine L_region ?_
      refine L_u (P_sm rfl h) ?_
      intro v w h
      refine L_u (P_ex h) ?_
      intro v w h
      refine L_nil ?_
      refine E_n ?_
      refine wp_seq ?_
      refine C_cnd h (fun h => ?_) (fun h => ?_)
      · refine C_skip ?_
        refine E_n ?_
        refine C_blk ?_
        refine wp_seq ?_
        refine L_region ?_
        refine L_u (P_smr rfl h) ?_
        intro v w h
        refine L_u (P_ex h) ?_
        intro v w h
        refine L_u (P_ex h) ?_
        intro v w h
        refine L_u (P_al ze145 rfl h) ?_
        intro v w h
        refine L_as ?_
        refine L_u (P_stn ag145 h) ?_
        intro w h
        refine L_nil ?_
        refine E_n ?_
        refine D_region (by decide +kernel) 8 rfl ?_
        replace h := dr_e h
        refine G_p 0 rfl (by decide +kernel) (Y_mv h) ?_
        intro v h
        refine G_p 1 rfl (by decide +kernel) (Y_nc h) ?_
        intro v h
        refine G_p 2 rfl (by decide +kernel) (Y_fa fo130_0 h) ?_
        intro v h
        refine G_r _ 3 rfl (by decide +kernel) (R_ld sc127 h) ?_
        intro v h
        refine G_p 4 rfl (by decide +kernel) (Y_mv h) ?_
        intro v h
        refine G_r _ 5 rfl (by decide +kernel) (R_ldn ag145 h) ?_
        intro v h
        refine G_p 6 rfl (by decide +kernel) (Y_ia se127 h) ?_
        intro v h
        refine G_e 7 rfl (by decide +kernel) (P_stn ag145 h ?_)
        intro w h
        refine ⟨keepF_dep [5] (by decide +kernel) rfl (keepF_dep [3] (by decide +kernel) rfl keepF_nil), ?_⟩
        refine G_done (by decide +kernel) ?_
        refine B_n ?_
        refine E_n ?_
        exact L2 _ _ h
      · refine C_exit ?_
        refine E_x ?_
        refine E_x ?_
        refine B_x ?_
        exact J1 _ _ h
    · unfold f114_j1 at h
      refine E_n ?_
      refine wp_seq ?_
      refine L_region ?_
      refine L_mv ?_
      refine L_u (P_nc h) ?_
      intro v w h
      refine L_u (P_fa fo130_1 h) ?_
      intro v w h
      refine L_u (P_ld sc128 h) ?_
      intro v w h
      refine L_u (N_bin rfl h) ?_
      intro w h
      refine L_nil ?_
      refine E_n ?_
      refine wp_seq ?_
      refine L_region ?_
      refine L_as ?_
      refine L_nil ?_
      refine E_n ?_
      refine C_ret ?_
      show bodyPost Tryz.prog Tryz.f114 (Rt Q) .ret _ _
      exact post_tmps (ts := [2]) (.inr rfl) rfl h

def f148 (t0 : Value) : M := dr <| idv t0 fun t3 => smr Tryz.prog (convert 42 9 t3) fun t4 => idv t0 fun t5 => lnl t5 fun t6 => su .i64 (.int .i64 64) t6 fun t7 => cc Tryz.prog 106 #[(.string ⟨#[0]⟩), t7] fun t8 => kp (Ksm Tryz.prog (convert 42 9 t3) t4) <| cat t4 t8 fun t9 => idv t9 fun t2 => rt t2
theorem s148 (t0 : Value) (w : World) (Q : Value → World → Prop) (h : f148 t0 w Q) : Calls Tryz.prog 148 #[t0] w (Rt Q) := by
  refine calls_of (l := [t0]) Tryz.func148 rfl Tryz.ntmps148 (Nat.le_of_ble_eq_true rfl) ?_
  unfold f148 at h
  refine wp_seq ?_
  refine L_region ?_
  refine L_as ?_
  refine L_nil ?_
  refine E_n ?_
  refine wp_seq ?_
  refine D_region (by decide +kernel) 8 rfl ?_
  replace h := dr_e h
  refine G_p 0 rfl (by decide +kernel) (Y_mv h) ?_
  intro v h
  refine G_r _ 1 rfl (by decide +kernel) (R_sm rfl h) ?_
  intro v h
  refine G_p 2 rfl (by decide +kernel) (Y_mv h) ?_
  intro v h
  refine G_p 3 rfl (by decide +kernel) (Y_lnl is42 h) ?_
  intro v h
  refine G_p 4 rfl (by decide +kernel) (Y_su h) ?_
  intro v h
  refine G_e 5 rfl (by decide +kernel) (N_cc Tryz.func106 rfl nn106 h ?_)
  intro v w h
  refine ⟨keepF_cons (kp_1 h) keepF_nil, ?_⟩
  replace h := (kp_2 h)
  refine G_p 6 rfl (by decide +kernel) (Y_cat h) ?_
  intro v h
  refine G_p 7 rfl (by decide +kernel) (Y_as h) ?_
  intro v h
  refine G_done (by decide +kernel) ?_
  refine E_n ?_
  refine C_ret ?_
  show bodyPost Tryz.prog Tryz.f148 (Rt Q) .ret _ _
  exact post_tmps (ts := [2]) (.inr rfl) rfl h

def f146 (t0 : Value) : M := cnd t0 ( sm Tryz.prog (Instr.buildSlice 42 1 #[(0, (.int .u8 1))]) fun t4 => cl (f148 t4) fun t5 => rt t5 ) ( cl (f148 (.slice none 0 0)) fun t6 => rt t6 )
theorem s146 (t0 : Value) (w : World) (Q : Value → World → Prop) (h : f146 t0 w Q) : Calls Tryz.prog 146 #[t0] w (Rt Q) := by
  refine calls_of (l := [t0]) Tryz.func146 rfl Tryz.ntmps146 (Nat.le_of_ble_eq_true rfl) ?_
  unfold f146 at h
  refine wp_seq ?_
  refine L_region ?_
  refine L_as ?_
  refine L_nil ?_
  refine E_n ?_
  refine wp_seq ?_
  refine wp_seq ?_
  refine L_region ?_
  refine L_mv ?_
  refine L_nil ?_
  refine E_n ?_
  refine C_cnd h (fun h => ?_) (fun h => ?_)
  · refine wp_seq ?_
    refine L_region ?_
    refine L_u (N_bsl h) ?_
    intro v w h
    refine L_u (N_cl Tryz.func148 rfl nn148 (fun w Q h => s148 _ w Q h) h) ?_
    intro v w h
    refine L_as ?_
    refine L_nil ?_
    refine E_n ?_
    refine C_ret ?_
    show bodyPost Tryz.prog Tryz.f146 (Rt Q) .ret _ _
    exact post_tmps (ts := [2]) (.inr rfl) rfl h
  · refine C_skip ?_
    refine E_n ?_
    refine wp_seq ?_
    refine L_region ?_
    refine L_u (N_cl Tryz.func148 rfl nn148 (fun w Q h => s148 _ w Q h) h) ?_
    intro v w h
    refine L_as ?_
    refine L_nil ?_
    refine E_n ?_
    refine C_ret ?_
    show bodyPost Tryz.prog Tryz.f146 (Rt Q) .ret _ _
    exact post_tmps (ts := [2]) (.inr rfl) rfl h

def f115 (t0 t1 : Value) : M := dr <| idv t0 fun t5 => idv t1 fun t6 => idv t0 fun t9 => nc t9 fun t10 => fa 0 t10 fun t11 => ld t11 fun t12 => idv (.func (.func 114) #[t12] #[]) fun t13 => cl (f146 t6) fun t7 => kp (Kld t11 t12) <| cl (f119 t5 (.int .i64 0) t7) fun t8 => kp (Kld t11 t12) <| sm Tryz.prog (Instr.buildSlice 138 2 #[(0, t8), (1, t13)]) fun t14 => idv t14 fun t4 => rt t4
theorem s115 (t0 t1 : Value) (w : World) (Q : Value → World → Prop) (h : f115 t0 t1 w Q) : Calls Tryz.prog 115 #[t0, t1] w (Rt Q) := by
  refine calls_of (l := [t0, t1]) Tryz.func115 rfl Tryz.ntmps115 (Nat.le_of_ble_eq_true rfl) ?_
  unfold f115 at h
  refine wp_seq ?_
  refine L_region ?_
  refine L_as ?_
  refine L_nil ?_
  refine E_n ?_
  refine wp_seq ?_
  refine D_region (by decide +kernel) 11 rfl ?_
  replace h := dr_e h
  refine G_p 0 rfl (by decide +kernel) (Y_mv h) ?_
  intro v h
  refine G_p 1 rfl (by decide +kernel) (Y_mv h) ?_
  intro v h
  refine G_p 4 rfl (by decide +kernel) (Y_mv h) ?_
  intro v h
  refine G_p 5 rfl (by decide +kernel) (Y_nc h) ?_
  intro v h
  refine G_p 6 rfl (by decide +kernel) (Y_fa fo133_0 h) ?_
  intro v h
  refine G_r _ 7 rfl (by decide +kernel) (R_ld sc63 h) ?_
  intro v h
  refine G_p 8 rfl (by decide +kernel) (Y_nmf h) ?_
  intro v h
  refine G_e 2 rfl (by decide +kernel) (N_cl Tryz.func146 rfl nn146 (fun w Q h => s146 _ w Q h) h ?_)
  intro v w h
  refine ⟨keepF_cons (kp_1 h) keepF_nil, ?_⟩
  replace h := (kp_2 h)
  refine G_e 3 rfl (by decide +kernel) (N_cl Tryz.func119 rfl nn119 (fun w Q h => s119 _ _ _ w Q h) h ?_)
  intro v w h
  refine ⟨keepF_cons (kp_1 h) keepF_nil, ?_⟩
  replace h := (kp_2 h)
  refine G_e 9 rfl (by decide +kernel) (N_bsl h ?_)
  intro v w h
  refine ⟨keepF_dep [8, 7] (by decide +kernel) rfl keepF_nil, ?_⟩
  refine G_p 10 rfl (by decide +kernel) (Y_as h) ?_
  intro v h
  refine G_done (by decide +kernel) ?_
  refine E_n ?_
  refine C_ret ?_
  show bodyPost Tryz.prog Tryz.f115 (Rt Q) .ret _ _
  exact post_tmps (ts := [4]) (.inr rfl) rfl h

def f87_b2 (j1 : Value → Value → M) (self2 : Value → Value → Value → Value → Value → M) (t0_1 t5 t19 t20_1 t21 : Value) : M := lt .i64 t21 t20_1 fun t22 => cnd t22 ( ia 1 t19 t21 fun t24 => ld t24 fun t25 => al 3 #[(.int .i64 0)] fun t6 => al 3 #[(.int .i64 0)] fun t7 => st t6 t21 <| st t7 t25 <| dr <| ld t7 fun t26 => idv t0_1 fun t27 => nc t27 fun t28 => fa 1 t28 fun t29 => ld t29 fun t30 => lnl t30 fun t31 => ge .i64 t26 t31 fun t32 => cnd t32 ( rt (.int .i64 10) ) ( dr <| idv t0_1 fun t33 => nc t33 fun t34 => fa 1 t34 fun t35 => ld t35 fun t36 => ld t7 fun t37 => idv t0_1 fun t38 => idv (.func (.func 110) #[] #[t6]) fun t39 => cl (f83 t38 t39) fun t40 => kp (Kld t7 t37) <| kp (Kld t35 t36) <| ia 1 t36 t37 fun t41 => st t41 t40 <| dr <| idv t5 fun t42 => idv t0_1 fun t43 => idv (.func (.func 113) #[] #[t7]) fun t44 => idv t0_1 fun t45 => nc t45 fun t46 => fa 1 t46 fun t47 => ld t47 fun t48 => ld t7 fun t49 => ia 1 t48 t49 fun t50 => ld t50 fun t51 => cl (f112 t43 t44 t51) fun t52 => sm Tryz.prog (Builtin.append_ #[138, 138] 138 #[t42, t52]) fun t53 => idv t53 fun t5_1 => ad .i64 t21 (.int .i64 1) fun t54 => self2 t0_1 t5_1 t19 t20_1 t54 ) ) ( j1 t0_1 t5 )
def f87_j1 (t0_2 t5_2 : Value) : M := nc t0_2 fun t57 => fa 0 t57 fun t58 => ld t58 fun t59 => idv (.func (.func 114) #[t59] #[]) fun t60 => sm Tryz.prog (Instr.buildSlice 138 1 #[(0, t60)]) fun t61 => sm Tryz.prog (Builtin.append_ #[138, 138] 138 #[t5_2, t61]) fun t62 => cl (f115 t0_2 (.bool false)) fun t64 => sm Tryz.prog (Builtin.append_ #[138, 138] 138 #[t62, t64]) fun t65 => cl (f90 t65) fun t67 => rt t67
def f87 (t0 : Value) : M := nc t0 fun t10 => fa 0 t10 fun t11 => ld t11 fun t12 => cl (f86 t12 (.int .i64 1)) fun t13 => cl (f109 t13) fun t14 => ex 0 t14 fun t15 => ex 1 t14 fun t16 => nei .i64 t16 (.int .i64 0) fun t18 => cnd t18 ( rt (.int .i64 10) ) ( lnl t15 fun t20 => jn (fun (j1 : Value → Value → M) => lo (fun _ _ _ _ _ => bot) (f87_b2 j1) (fun l => l t0 (.slice none 0 0) t15 t20 (.int .i64 0)) ) (f87_j1) )
theorem s87 (t0 : Value) (w : World) (Q : Value → World → Prop) (h : f87 t0 w Q) : Calls Tryz.prog 87 #[t0] w (Rt Q) := by
  refine calls_of (l := [t0]) Tryz.func87 rfl Tryz.ntmps87 (Nat.le_of_ble_eq_true rfl) ?_
  unfold f87 at h
  refine wp_seq ?_
  refine L_region ?_
  refine L_as ?_
  refine L_nil ?_
  refine E_n ?_
  refine wp_seq ?_
  refine L_region ?_
  refine L_mv ?_
  refine L_u (P_nc h) ?_
  intro v w h
  refine L_u (P_fa fo133_0 h) ?_
  intro v w h
  refine L_u (P_ld sc63 h) ?_
  intro v w h
  refine L_u (N_cl Tryz.func86 rfl nn86 (fun w Q h => s86 _ _ w Q h) h) ?_
  intro v w h
  refine L_u (N_cl Tryz.func109 rfl nn109 (fun w Q h => s109 _ w Q h) h) ?_
  intro v w h
  refine L_mv ?_
  refine L_u (P_ex h) ?_
  intro v w h
  refine L_u (P_ex h) ?_
  intro v w h
  refine L_as ?_
  refine L_as ?_
  refine L_nil ?_
  refine E_n ?_
  refine wp_seq ?_
  refine wp_seq ?_
  refine L_region ?_
  refine L_mv ?_
  refine L_u (P_nei h) ?_
  intro v w h
  refine L_nil ?_
  refine E_n ?_
  refine C_cnd h (fun h => ?_) (fun h => ?_)
  · refine wp_seq ?_
    refine L_region ?_
    refine L_as ?_
    refine L_nil ?_
    refine E_n ?_
    refine C_ret ?_
    show bodyPost Tryz.prog Tryz.f87 (Rt Q) .ret _ _
    exact post_tmps (ts := [2]) (.inr rfl) rfl h
  · refine C_skip ?_
    refine E_n ?_
    refine wp_seq ?_
    refine L_region ?_
    refine L_as ?_
    refine L_nil ?_
    refine E_n ?_
    refine wp_seq ?_
    refine wp_seq ?_
    refine L_region ?_
    refine L_mv ?_
    refine L_u (P_lnl is22 h) ?_
    intro v w h
    refine L_mv ?_
    refine L_nil ?_
    refine E_n ?_
    refine C_join (fun (k : Value → Value → M) (ρ : Nat → Value) => k (ρ 0) (ρ 5)) h (fun j1 J1 h => ?_) (fun ρ w h => ?_)
    · refine C_blk ?_
      refine C_lo (fun (l : Value → Value → Value → Value → Value → M) (ρ : Nat → Value) => l (ρ 0) (ρ 5) (ρ 19) (ρ 20) (ρ 21)) h (fun ρ w h => h) (fun nx self2 L2 ρ w h => ?_)
      unfold f87_b2 at h
      refine wp_seq ?_
      refine L_region ?_
      refine L_u (P_lt h) ?_
      intro v w h
      refine L_nil ?_
      refine E_n ?_
      refine wp_seq ?_
      refine C_cnd h (fun h => ?_) (fun h => ?_)
      · refine C_skip ?_
        refine E_n ?_
        refine wp_seq ?_
        refine C_blk ?_
        refine wp_seq ?_
        refine L_region ?_
        refine L_mv ?_
        refine L_u (P_ia se22 h) ?_
        intro v w h
        refine L_u (P_ld sc3 h) ?_
        intro v w h
        refine L_u (P_al ze3 rfl h) ?_
        intro v w h
        refine L_u (P_al ze3 rfl h) ?_
        intro v w h
        refine L_u (P_st on3 h) ?_
        intro w h
        refine L_u (P_st on3 h) ?_
        intro w h
        refine L_nil ?_
        refine E_n ?_
        refine wp_seq ?_
        refine wp_seq ?_
        refine D_region (by decide +kernel) 7 rfl ?_
        replace h := dr_e h
        refine G_r _ 0 rfl (by decide +kernel) (R_ld sc3 h) ?_
        intro v h
        refine G_p 1 rfl (by decide +kernel) (Y_mv h) ?_
        intro v h
        refine G_p 2 rfl (by decide +kernel) (Y_nc h) ?_
        intro v h
        refine G_p 3 rfl (by decide +kernel) (Y_fa fo133_1 h) ?_
        intro v h
        refine G_r _ 4 rfl (by decide +kernel) (R_ld sc100 h) ?_
        intro v h
        refine G_p 5 rfl (by decide +kernel) (Y_lnl is100 h) ?_
        intro v h
        refine G_p 6 rfl (by decide +kernel) (Y_ge h) ?_
        intro v h
        refine G_done (by decide +kernel) ?_
        refine E_n ?_
        refine C_cnd h (fun h => ?_) (fun h => ?_)
        · refine wp_seq ?_
          refine L_region ?_
          refine L_as ?_
          refine L_nil ?_
          refine E_n ?_
          refine C_ret ?_
          show bodyPost Tryz.prog Tryz.f87 (Rt Q) .ret _ _
          exact post_tmps (ts := [2]) (.inr rfl) rfl h
        · refine C_skip ?_
          refine E_n ?_
          refine wp_seq ?_
          refine D_region (by decide +kernel) 10 rfl ?_
          replace h := dr_e h
          refine G_p 0 rfl (by decide +kernel) (Y_mv h) ?_
          intro v h
          refine G_p 1 rfl (by decide +kernel) (Y_nc h) ?_
          intro v h
          refine G_p 2 rfl (by decide +kernel) (Y_fa fo133_1 h) ?_
          intro v h
          refine G_r _ 3 rfl (by decide +kernel) (R_ld sc100 h) ?_
          intro v h
          refine G_r _ 4 rfl (by decide +kernel) (R_ld sc3 h) ?_
          intro v h
          refine G_p 5 rfl (by decide +kernel) (Y_mv h) ?_
          intro v h
          refine G_p 6 rfl (by decide +kernel) (Y_nmf h) ?_
          intro v h
          refine G_e 7 rfl (by decide +kernel) (N_cl Tryz.func83 rfl nn83 (fun w Q h => s83 _ _ w Q h) h ?_)
          intro v w h
          refine ⟨keepF_cons (kp_1 h) (keepF_cons (kp_1 (kp_2 h)) keepF_nil), ?_⟩
          replace h := (kp_2 (kp_2 h))
          refine G_p 8 rfl (by decide +kernel) (Y_ia se100 h) ?_
          intro v h
          refine G_e 9 rfl (by decide +kernel) (P_st on9 h ?_)
          intro w h
          refine ⟨keepF_dep [4] (by decide +kernel) rfl (keepF_dep [3] (by decide +kernel) rfl keepF_nil), ?_⟩
          refine G_done (by decide +kernel) ?_
          refine E_n ?_
          refine D_region (by decide +kernel) 13 rfl ?_
          replace h := dr_e h
          refine G_p 0 rfl (by decide +kernel) (Y_mv h) ?_
          intro v h
          refine G_p 1 rfl (by decide +kernel) (Y_mv h) ?_
          intro v h
          refine G_p 2 rfl (by decide +kernel) (Y_nmf h) ?_
          intro v h
          refine G_p 3 rfl (by decide +kernel) (Y_mv h) ?_
          intro v h
          refine G_p 4 rfl (by decide +kernel) (Y_nc h) ?_
          intro v h
          refine G_p 5 rfl (by decide +kernel) (Y_fa fo133_1 h) ?_
          intro v h
          refine G_r _ 6 rfl (by decide +kernel) (R_ld sc100 h) ?_
          intro v h
          refine G_r _ 7 rfl (by decide +kernel) (R_ld sc3 h) ?_
          intro v h
          refine G_p 8 rfl (by decide +kernel) (Y_ia se100 h) ?_
          intro v h
          refine G_r _ 9 rfl (by decide +kernel) (R_ld sc9 h) ?_
          intro v h
          refine G_e 10 rfl (by decide +kernel) (N_cl Tryz.func112 rfl nn112 (fun w Q h => s112 _ _ _ w Q h) h ?_)
          intro v w h
          refine ⟨keepF_dep [9] (by decide +kernel) rfl (keepF_dep [9, 8, 7] (by decide +kernel) rfl (keepF_dep [9, 8, 6] (by decide +kernel) rfl keepF_nil)), ?_⟩
          refine G_e 11 rfl (by decide +kernel) (N_bi rfl h ?_)
          intro v w h
          refine ⟨keepF_dep [10, 9] (by decide +kernel) rfl (keepF_dep [10, 9, 8, 7] (by decide +kernel) rfl (keepF_dep [10, 9, 8, 6] (by decide +kernel) rfl keepF_nil)), ?_⟩
          refine G_p 12 rfl (by decide +kernel) (Y_as h) ?_
          intro v h
          refine G_done (by decide +kernel) ?_
          refine B_n ?_
          refine E_n ?_
          refine L_region ?_
          refine L_u (P_ad h) ?_
          intro v w h
          refine L_mv ?_
          refine L_nil ?_
          refine E_n ?_
          exact L2 _ _ h
      · refine C_exit ?_
        refine E_x ?_
        refine E_x ?_
        refine B_x ?_
        exact J1 _ _ h
    · unfold f87_j1 at h
      refine E_n ?_
      refine wp_seq ?_
      refine L_region ?_
      refine L_mv ?_
      refine L_mv ?_
      refine L_u (P_nc h) ?_
      intro v w h
      refine L_u (P_fa fo133_0 h) ?_
      intro v w h
      refine L_u (P_ld sc63 h) ?_
      intro v w h
      refine L_u (N_mf h) ?_
      intro v w h
      refine L_u (N_bsl h) ?_
      intro v w h
      refine L_u (N_bi rfl h) ?_
      intro v w h
      refine L_mv ?_
      refine L_u (N_cl Tryz.func115 rfl nn115 (fun w Q h => s115 _ _ w Q h) h) ?_
      intro v w h
      refine L_u (N_bi rfl h) ?_
      intro v w h
      refine L_as ?_
      refine L_nil ?_
      refine E_n ?_
      refine wp_seq ?_
      refine L_region ?_
      refine L_mv ?_
      refine L_u (N_cl Tryz.func90 rfl nn90 (fun w Q h => s90 _ w Q h) h) ?_
      intro v w h
      refine L_as ?_
      refine L_nil ?_
      refine E_n ?_
      refine C_ret ?_
      show bodyPost Tryz.prog Tryz.f87 (Rt Q) .ret _ _
      exact post_tmps (ts := [2]) (.inr rfl) rfl h

def f40_b2 (j1 : Value → Value → M) (self2 : Value → Value → Value → Value → M) (t0_1 t6 t29 t30 : Value) : M := lt .i64 t30 t29 fun t31 => cnd t31 ( al 3 #[(.int .i64 0)] fun t7 => st t7 t30 <| dr <| idv t6 fun t33 => idv t6 fun t34 => nc t34 fun t35 => fa 1 t35 fun t36 => ld t36 fun t37 => idv t6 fun t38 => idv (.func (.func 84) #[] #[t7]) fun t39 => cl (f83 t38 t39) fun t40 => kp (Kld t36 t37) <| sm Tryz.prog (Instr.buildSlice 100 1 #[(0, t40)]) fun t41 => kp (Kld t36 t37) <| sm Tryz.prog (Builtin.append_ #[100, 100] 100 #[t37, t41]) fun t42 => nc t33 fun t43 => fa 1 t43 fun t44 => st t44 t42 <| ad .i64 t30 (.int .i64 1) fun t45 => self2 t0_1 t6 t29 t45 ) ( j1 t0_1 t6 )
def f40_j3 (t6_2 : Value) : M := rt (.tuple #[t6_2, (.int .i64 0)])
def f40_j1 (t0_2 t6_1 : Value) : M := cl (f86 t0_2 (.int .i64 0)) fun t47 => cl (f85 t47) fun t48 => jn (fun (j3 : Value → M) => cnd t48 ( cl (f87 t6_1) fun t50 => nei .i64 t50 (.int .i64 0) fun t52 => cnd t52 ( rt (.tuple #[(.pointer none), t50]) ) ( j3 t6_1 ) ) ( j3 t6_1 ) ) (f40_j3)
def f40 (t0 t1 : Value) : M := smr Tryz.prog (do eqGuard .eql 63 (.tmp 9) (.const (.pointer none)) t0 (.pointer none); binOp .eql 63 t0 (.pointer none)) fun t10 => gd t10 false (idv t1) fun t12 => gd t10 false (lt .i64 t12 (.int .i64 1)) fun t13 => pk t10 (.bool true) t13 fun t14 => gd t14 false (idv t1) fun t16 => gd t14 false (gt .i64 t16 (.int .i64 160)) fun t17 => pk t14 (.bool true) t17 fun t18 => gd t18 false (idv t0) fun t20 => gd t18 false (cl (f82 t20)) fun t21 => gd t18 false (idv t1) fun t22 => gd t18 false (cl (f39 t22)) fun t23 => gd t18 false (lt .i64 t21 t23) fun t24 => pk t18 (.bool true) t24 fun t25 => cnd t25 ( rt (.tuple #[(.pointer none), (.int .i64 1)]) ) ( smr Tryz.prog (Instr.build 133 #[(0, t0)]) fun t27 => bx 133 t27 fun t28 => jn (fun (j1 : Value → Value → M) => lo (fun _ _ _ _ => bot) (f40_b2 j1) (fun l => l t0 t28 t1 (.int .i64 0)) ) (f40_j1) )
theorem s40 (t0 t1 : Value) (w : World) (Q : Value → World → Prop) (h : f40 t0 t1 w Q) : Calls Tryz.prog 40 #[t0, t1] w (Rt Q) := by
  refine calls_of (l := [t0, t1]) Tryz.func40 rfl Tryz.ntmps40 (Nat.le_of_ble_eq_true rfl) ?_
  unfold f40 at h
  refine wp_seq ?_
  refine L_region ?_
  refine L_as ?_
  refine L_as ?_
  refine L_nil ?_
  refine E_n ?_
  refine wp_seq ?_
  refine wp_seq ?_
  refine L_region ?_
  refine L_mv ?_
  refine L_u (P_smr rfl h) ?_
  intro v w h
  refine L_mv ?_
  refine L_g (t := 11) h rfl rfl (fun c h => P_mv h c) ?_
  intro v w h
  refine L_g (t := 11) h rfl rfl (fun c h => P_lt h c) ?_
  intro v w h
  refine L_u (P_pk h) ?_
  intro v w h
  refine L_mv ?_
  refine L_g (t := 15) h rfl rfl (fun c h => P_mv h c) ?_
  intro v w h
  refine L_g (t := 15) h rfl rfl (fun c h => P_gt h c) ?_
  intro v w h
  refine L_u (P_pk h) ?_
  intro v w h
  refine L_mv ?_
  refine L_g (t := 19) h rfl rfl (fun c h => P_mv h c) ?_
  intro v w h
  refine L_g (t := 19) h rfl rfl (fun c h => N_cl Tryz.func82 rfl nn82 (fun w Q h => s82 _ w Q h) h c) ?_
  intro v w h
  refine L_g (t := 19) h rfl rfl (fun c h => P_mv h c) ?_
  intro v w h
  refine L_g (t := 19) h rfl rfl (fun c h => N_cl Tryz.func39 rfl nn39 (fun w Q h => s39 _ w Q h) h c) ?_
  intro v w h
  refine L_g (t := 19) h rfl rfl (fun c h => P_lt h c) ?_
  intro v w h
  refine L_u (P_pk h) ?_
  intro v w h
  refine L_nil ?_
  refine E_n ?_
  refine C_cnd h (fun h => ?_) (fun h => ?_)
  · refine wp_seq ?_
    refine L_region ?_
    refine L_as ?_
    refine L_as ?_
    refine L_nil ?_
    refine E_n ?_
    refine C_ret ?_
    show bodyPost Tryz.prog Tryz.f40 (Rt Q) .ret _ _
    exact post_tmps (ts := [4, 5]) (.inr rfl) rfl h
  · refine C_skip ?_
    refine E_n ?_
    refine wp_seq ?_
    refine L_region ?_
    refine L_mv ?_
    refine L_u (N_bld h) ?_
    intro v w h
    refine L_u (P_bx h) ?_
    intro v w h
    refine L_as ?_
    refine L_nil ?_
    refine E_n ?_
    refine wp_seq ?_
    refine wp_seq ?_
    refine L_region ?_
    refine L_mv ?_
    refine L_mv ?_
    refine L_nil ?_
    refine E_n ?_
    refine C_join (fun (k : Value → Value → M) (ρ : Nat → Value) => k (ρ 0) (ρ 6)) h (fun j1 J1 h => ?_) (fun ρ w h => ?_)
    · refine C_blk ?_
      refine C_lo (fun (l : Value → Value → Value → Value → M) (ρ : Nat → Value) => l (ρ 0) (ρ 6) (ρ 29) (ρ 30)) h (fun ρ w h => h) (fun nx self2 L2 ρ w h => ?_)
      unfold f40_b2 at h
      refine wp_seq ?_
      refine L_region ?_
      refine L_u (P_lt h) ?_
      intro v w h
      refine L_nil ?_
      refine E_n ?_
      refine wp_seq ?_
      refine C_cnd h (fun h => ?_) (fun h => ?_)
      · refine C_skip ?_
        refine E_n ?_
        refine wp_seq ?_
        refine C_blk ?_
        refine wp_seq ?_
        refine L_region ?_
        refine L_mv ?_
        refine L_u (P_al ze3 rfl h) ?_
        intro v w h
        refine L_u (P_st on3 h) ?_
        intro w h
        refine L_nil ?_
        refine E_n ?_
        refine D_region (by decide +kernel) 13 rfl ?_
        replace h := dr_e h
        refine G_p 0 rfl (by decide +kernel) (Y_mv h) ?_
        intro v h
        refine G_p 1 rfl (by decide +kernel) (Y_mv h) ?_
        intro v h
        refine G_p 2 rfl (by decide +kernel) (Y_nc h) ?_
        intro v h
        refine G_p 3 rfl (by decide +kernel) (Y_fa fo133_1 h) ?_
        intro v h
        refine G_r _ 4 rfl (by decide +kernel) (R_ld sc100 h) ?_
        intro v h
        refine G_p 5 rfl (by decide +kernel) (Y_mv h) ?_
        intro v h
        refine G_p 6 rfl (by decide +kernel) (Y_nmf h) ?_
        intro v h
        refine G_e 7 rfl (by decide +kernel) (N_cl Tryz.func83 rfl nn83 (fun w Q h => s83 _ _ w Q h) h ?_)
        intro v w h
        refine ⟨keepF_cons (kp_1 h) keepF_nil, ?_⟩
        replace h := (kp_2 h)
        refine G_e 8 rfl (by decide +kernel) (N_bsl h ?_)
        intro v w h
        refine ⟨keepF_cons (kp_1 h) keepF_nil, ?_⟩
        replace h := (kp_2 h)
        refine G_e 9 rfl (by decide +kernel) (N_bi rfl h ?_)
        intro v w h
        refine ⟨keepF_dep [4] (by decide +kernel) rfl keepF_nil, ?_⟩
        refine G_p 10 rfl (by decide +kernel) (Y_nc h) ?_
        intro v h
        refine G_p 11 rfl (by decide +kernel) (Y_fa fo133_1 h) ?_
        intro v h
        refine G_e 12 rfl (by decide +kernel) (P_st on100 h ?_)
        intro w h
        refine ⟨keepF_dep [4] (by decide +kernel) rfl keepF_nil, ?_⟩
        refine G_done (by decide +kernel) ?_
        refine B_n ?_
        refine E_n ?_
        refine L_region ?_
        refine L_u (P_ad h) ?_
        intro v w h
        refine L_mv ?_
        refine L_nil ?_
        refine E_n ?_
        exact L2 _ _ h
      · refine C_exit ?_
        refine E_x ?_
        refine E_x ?_
        refine B_x ?_
        exact J1 _ _ h
    · unfold f40_j1 at h
      refine E_n ?_
      refine wp_seq ?_
      refine wp_seq ?_
      refine L_region ?_
      refine L_mv ?_
      refine L_u (N_cl Tryz.func86 rfl nn86 (fun w Q h => s86 _ _ w Q h) h) ?_
      intro v w h
      refine L_u (N_cl Tryz.func85 rfl nn85 (fun w Q h => s85 _ w Q h) h) ?_
      intro v w h
      refine L_nil ?_
      refine E_n ?_
      refine C_join (fun (k : Value → M) (ρ : Nat → Value) => k (ρ 6)) h (fun j3 J3 h => ?_) (fun ρ w h => ?_)
      · refine C_cnd h (fun h => ?_) (fun h => ?_)
        · refine wp_seq ?_
          refine L_region ?_
          refine L_mv ?_
          refine L_u (N_cl Tryz.func87 rfl nn87 (fun w Q h => s87 _ w Q h) h) ?_
          intro v w h
          refine L_as ?_
          refine L_nil ?_
          refine E_n ?_
          refine wp_seq ?_
          refine L_region ?_
          refine L_mv ?_
          refine L_u (P_nei h) ?_
          intro v w h
          refine L_nil ?_
          refine E_n ?_
          refine C_cnd h (fun h => ?_) (fun h => ?_)
          · refine wp_seq ?_
            refine L_region ?_
            refine L_mv ?_
            refine L_as ?_
            refine L_as ?_
            refine L_nil ?_
            refine E_n ?_
            refine C_ret ?_
            show bodyPost Tryz.prog Tryz.f40 (Rt Q) .ret _ _
            exact post_tmps (ts := [4, 5]) (.inr rfl) rfl h
          · refine C_skip ?_
            exact J3 _ _ h
        · refine C_skip ?_
          exact J3 _ _ h
      · unfold f40_j3 at h
        refine E_n ?_
        refine wp_seq ?_
        refine L_region ?_
        refine L_mv ?_
        refine L_as ?_
        refine L_as ?_
        refine L_nil ?_
        refine E_n ?_
        refine C_ret ?_
        show bodyPost Tryz.prog Tryz.f40 (Rt Q) .ret _ _
        exact post_tmps (ts := [4, 5]) (.inr rfl) rfl h

def f17 (t0 : Value) : M := cl (f39 t0) fun t7 => cl (f38 t7) fun t8 => cl (f40 t8 t0) fun t10 => ex 0 t10 fun t11 => ex 1 t10 fun t12 => nei .i64 t12 (.int .i64 0) fun t14 => cnd t14 ( rt (.pointer none) ) ( cl (f23 t11 (.int .i64 4)) fun t16 => rt t16 )
theorem s17 (t0 : Value) (w : World) (Q : Value → World → Prop) (h : f17 t0 w Q) : Calls Tryz.prog 17 #[t0] w (Rt Q) := by
  refine calls_of (l := [t0]) Tryz.func17 rfl Tryz.ntmps17 (Nat.le_of_ble_eq_true rfl) ?_
  unfold f17 at h
  refine wp_seq ?_
  refine L_region ?_
  refine L_as ?_
  refine L_nil ?_
  refine E_n ?_
  refine wp_seq ?_
  refine L_region ?_
  refine L_mv ?_
  refine L_u (N_cl Tryz.func39 rfl nn39 (fun w Q h => s39 _ w Q h) h) ?_
  intro v w h
  refine L_u (N_cl Tryz.func38 rfl nn38 (fun w Q h => s38 _ w Q h) h) ?_
  intro v w h
  refine L_mv ?_
  refine L_u (N_cl Tryz.func40 rfl nn40 (fun w Q h => s40 _ _ w Q h) h) ?_
  intro v w h
  refine L_mv ?_
  refine L_u (P_ex h) ?_
  intro v w h
  refine L_u (P_ex h) ?_
  intro v w h
  refine L_as ?_
  refine L_as ?_
  refine L_nil ?_
  refine E_n ?_
  refine wp_seq ?_
  refine wp_seq ?_
  refine L_region ?_
  refine L_mv ?_
  refine L_u (P_nei h) ?_
  intro v w h
  refine L_nil ?_
  refine E_n ?_
  refine C_cnd h (fun h => ?_) (fun h => ?_)
  · refine wp_seq ?_
    refine L_region ?_
    refine L_as ?_
    refine L_nil ?_
    refine E_n ?_
    refine C_ret ?_
    show bodyPost Tryz.prog Tryz.f17 (Rt Q) .ret _ _
    exact post_tmps (ts := [2]) (.inr rfl) rfl h
  · refine C_skip ?_
    refine E_n ?_
    refine wp_seq ?_
    refine L_region ?_
    refine L_mv ?_
    refine L_u (N_cl Tryz.func23 rfl nn23 (fun w Q h => s23 _ _ w Q h) h) ?_
    intro v w h
    refine L_as ?_
    refine L_nil ?_
    refine E_n ?_
    refine C_ret ?_
    show bodyPost Tryz.prog Tryz.f17 (Rt Q) .ret _ _
    exact post_tmps (ts := [2]) (.inr rfl) rfl h

def f79 (t0 : Value) : M := smr Tryz.prog (do eqGuard .eql 40 (.tmp 3) (.const (.pointer none)) t0 (.pointer none); binOp .eql 40 t0 (.pointer none)) fun t4 => cnd t4 ( rt (.int .i64 0) ) ( nc t0 fun t6 => fa 1 t6 fun t7 => ld t7 fun t8 => lnl t8 fun t9 => rt t9 )
theorem s79 (t0 : Value) (w : World) (Q : Value → World → Prop) (h : f79 t0 w Q) : Calls Tryz.prog 79 #[t0] w (Rt Q) := by
  refine calls_of (l := [t0]) Tryz.func79 rfl Tryz.ntmps79 (Nat.le_of_ble_eq_true rfl) ?_
  unfold f79 at h
  refine wp_seq ?_
  refine L_region ?_
  refine L_as ?_
  refine L_nil ?_
  refine E_n ?_
  refine wp_seq ?_
  refine wp_seq ?_
  refine L_region ?_
  refine L_mv ?_
  refine L_u (P_smr rfl h) ?_
  intro v w h
  refine L_nil ?_
  refine E_n ?_
  refine C_cnd h (fun h => ?_) (fun h => ?_)
  · refine wp_seq ?_
    refine L_region ?_
    refine L_as ?_
    refine L_nil ?_
    refine E_n ?_
    refine C_ret ?_
    show bodyPost Tryz.prog Tryz.f79 (Rt Q) .ret _ _
    exact post_tmps (ts := [2]) (.inr rfl) rfl h
  · refine C_skip ?_
    refine E_n ?_
    refine wp_seq ?_
    refine L_region ?_
    refine L_mv ?_
    refine L_u (P_nc h) ?_
    intro v w h
    refine L_u (P_fa fo133_1 h) ?_
    intro v w h
    refine L_u (P_ld sc100 h) ?_
    intro v w h
    refine L_u (P_lnl is100 h) ?_
    intro v w h
    refine L_as ?_
    refine L_nil ?_
    refine E_n ?_
    refine C_ret ?_
    show bodyPost Tryz.prog Tryz.f79 (Rt Q) .ret _ _
    exact post_tmps (ts := [2]) (.inr rfl) rfl h

def f28 (t0 : Value) : M := smr Tryz.prog (do eqGuard .eql 29 (.tmp 3) (.const (.pointer none)) t0 (.pointer none); binOp .eql 29 t0 (.pointer none)) fun t4 => cnd t4 ( rt (.int .i64 0) ) ( nc t0 fun t6 => fa 0 t6 fun t7 => ld t7 fun t8 => cl (f79 t8) fun t9 => rt t9 )
theorem s28 (t0 : Value) (w : World) (Q : Value → World → Prop) (h : f28 t0 w Q) : Calls Tryz.prog 28 #[t0] w (Rt Q) := by
  refine calls_of (l := [t0]) Tryz.func28 rfl Tryz.ntmps28 (Nat.le_of_ble_eq_true rfl) ?_
  unfold f28 at h
  refine wp_seq ?_
  refine L_region ?_
  refine L_as ?_
  refine L_nil ?_
  refine E_n ?_
  refine wp_seq ?_
  refine wp_seq ?_
  refine L_region ?_
  refine L_mv ?_
  refine L_u (P_smr rfl h) ?_
  intro v w h
  refine L_nil ?_
  refine E_n ?_
  refine C_cnd h (fun h => ?_) (fun h => ?_)
  · refine wp_seq ?_
    refine L_region ?_
    refine L_as ?_
    refine L_nil ?_
    refine E_n ?_
    refine C_ret ?_
    show bodyPost Tryz.prog Tryz.f28 (Rt Q) .ret _ _
    exact post_tmps (ts := [2]) (.inr rfl) rfl h
  · refine C_skip ?_
    refine E_n ?_
    refine wp_seq ?_
    refine L_region ?_
    refine L_mv ?_
    refine L_u (P_nc h) ?_
    intro v w h
    refine L_u (P_fa fo124_0 h) ?_
    intro v w h
    refine L_u (P_ld sc40 h) ?_
    intro v w h
    refine L_u (N_cl Tryz.func79 rfl nn79 (fun w Q h => s79 _ w Q h) h) ?_
    intro v w h
    refine L_as ?_
    refine L_nil ?_
    refine E_n ?_
    refine C_ret ?_
    show bodyPost Tryz.prog Tryz.f28 (Rt Q) .ret _ _
    exact post_tmps (ts := [2]) (.inr rfl) rfl h

def f70 (t0 : Value) : M := smr Tryz.prog (do eqGuard .eql 25 (.tmp 4) (.const (.pointer none)) t0 (.pointer none); binOp .eql 25 t0 (.pointer none)) fun t5 => cnd t5 ( rt (.int .i64 1) ) ( nc t0 fun t8 => fa 24 t8 fun t9 => ld t9 fun t10 => cnd t10 ( rt (.int .i64 13) ) ( rt (.int .i64 0) ) )
theorem s70 (t0 : Value) (w : World) (Q : Value → World → Prop) (h : f70 t0 w Q) : Calls Tryz.prog 70 #[t0] w (Rt Q) := by
  refine calls_of (l := [t0]) Tryz.func70 rfl Tryz.ntmps70 (Nat.le_of_ble_eq_true rfl) ?_
  unfold f70 at h
  refine wp_seq ?_
  refine L_region ?_
  refine L_as ?_
  refine L_nil ?_
  refine E_n ?_
  refine wp_seq ?_
  refine C_blk ?_
  refine wp_seq ?_
  refine L_region ?_
  refine L_mv ?_
  refine L_u (P_smr rfl h) ?_
  intro v w h
  refine L_as ?_
  refine L_nil ?_
  refine E_n ?_
  refine C_cnd h (fun h => ?_) (fun h => ?_)
  · refine wp_seq ?_
    refine L_region ?_
    refine L_as ?_
    refine L_nil ?_
    refine E_n ?_
    refine C_ret ?_
    show bodyPost Tryz.prog Tryz.f70 (Rt Q) .ret _ _
    exact post_tmps (ts := [2]) (.inr rfl) rfl h
  · refine wp_seq ?_
    refine L_region ?_
    refine L_mv ?_
    refine L_u (P_nc h) ?_
    intro v w h
    refine L_u (P_fa fo113_3 h) ?_
    intro v w h
    refine L_u (P_ld sc4 h) ?_
    intro v w h
    refine L_as ?_
    refine L_nil ?_
    refine E_n ?_
    refine C_cnd h (fun h => ?_) (fun h => ?_)
    · refine wp_seq ?_
      refine L_region ?_
      refine L_as ?_
      refine L_nil ?_
      refine E_n ?_
      refine C_ret ?_
      show bodyPost Tryz.prog Tryz.f70 (Rt Q) .ret _ _
      exact post_tmps (ts := [2]) (.inr rfl) rfl h
    · refine C_skip ?_
      refine B_n ?_
      refine E_n ?_
      refine wp_seq ?_
      refine L_region ?_
      refine L_as ?_
      refine L_nil ?_
      refine E_n ?_
      refine C_ret ?_
      show bodyPost Tryz.prog Tryz.f70 (Rt Q) .ret _ _
      exact post_tmps (ts := [2]) (.inr rfl) rfl h

def f71 (t0 t1 : Value) : M := dr <| idv t0 fun t5 => idv t1 fun t6 => qu .i64 t6 (.int .i64 8) fun t7 => nc t5 fun t8 => fa 0 t8 fun t9 => iaa 20 1 t9 t7 fun t10 => ld t10 fun t11 => idv t1 fun t12 => re .i64 t12 (.int .i64 8) fun t13 => shl .u8 .i64 (.int .u8 1) t13 fun t14 => bws .and .u8 t11 t14 fun t15 => nei .u8 t15 (.int .u8 0) fun t16 => idv t16 fun t4 => rt t4
theorem s71 (t0 t1 : Value) (w : World) (Q : Value → World → Prop) (h : f71 t0 t1 w Q) : Calls Tryz.prog 71 #[t0, t1] w (Rt Q) := by
  refine calls_of (l := [t0, t1]) Tryz.func71 rfl Tryz.ntmps71 (Nat.le_of_ble_eq_true rfl) ?_
  unfold f71 at h
  refine wp_seq ?_
  refine L_region ?_
  refine L_as ?_
  refine L_nil ?_
  refine E_n ?_
  refine wp_seq ?_
  refine D_region (by decide +kernel) 13 rfl ?_
  replace h := dr_e h
  refine G_p 0 rfl (by decide +kernel) (Y_mv h) ?_
  intro v h
  refine G_p 1 rfl (by decide +kernel) (Y_mv h) ?_
  intro v h
  refine G_p 2 rfl (by decide +kernel) (Y_qu h) ?_
  intro v h
  refine G_p 3 rfl (by decide +kernel) (Y_nc h) ?_
  intro v h
  refine G_p 4 rfl (by decide +kernel) (Y_fa fo110_0 h) ?_
  intro v h
  refine G_p 5 rfl (by decide +kernel) (Y_iaa ae108 h) ?_
  intro v h
  refine G_r _ 6 rfl (by decide +kernel) (R_ld sc5 h) ?_
  intro v h
  refine G_p 7 rfl (by decide +kernel) (Y_mv h) ?_
  intro v h
  refine G_p 8 rfl (by decide +kernel) (Y_re h) ?_
  intro v h
  refine G_p 9 rfl (by decide +kernel) (Y_shl h) ?_
  intro v h
  refine G_p 10 rfl (by decide +kernel) (Y_bits rfl h) ?_
  intro v h
  refine G_p 11 rfl (by decide +kernel) (Y_nei h) ?_
  intro v h
  refine G_p 12 rfl (by decide +kernel) (Y_as h) ?_
  intro v h
  refine G_done (by decide +kernel) ?_
  refine E_n ?_
  refine C_ret ?_
  show bodyPost Tryz.prog Tryz.f71 (Rt Q) .ret _ _
  exact post_tmps (ts := [4]) (.inr rfl) rfl h

def f72 (t0 t1 : Value) : M := dr <| idv t0 fun t4 => idv t1 fun t5 => qu .i64 t5 (.int .i64 8) fun t6 => nc t4 fun t7 => fa 0 t7 fun t8 => iaa 20 1 t8 t6 fun t9 => ld t9 fun t10 => idv t1 fun t11 => re .i64 t11 (.int .i64 8) fun t12 => shl .u8 .i64 (.int .u8 1) t12 fun t13 => bws .xor .u8 t10 t13 fun t14 => nc t4 fun t15 => fa 0 t15 fun t16 => iaa 20 1 t16 t6 fun t17 => st t17 t14 <| rt (.tuple #[])
theorem s72 (t0 t1 : Value) (w : World) (Q : Value → World → Prop) (h : f72 t0 t1 w Q) : Calls Tryz.prog 72 #[t0, t1] w (Rt Q) := by
  refine calls_of (l := [t0, t1]) Tryz.func72 rfl Tryz.ntmps72 (Nat.le_of_ble_eq_true rfl) ?_
  unfold f72 at h
  refine D_region (by decide +kernel) 15 rfl ?_
  replace h := dr_e h
  refine G_p 0 rfl (by decide +kernel) (Y_mv h) ?_
  intro v h
  refine G_p 1 rfl (by decide +kernel) (Y_mv h) ?_
  intro v h
  refine G_p 2 rfl (by decide +kernel) (Y_qu h) ?_
  intro v h
  refine G_p 3 rfl (by decide +kernel) (Y_nc h) ?_
  intro v h
  refine G_p 4 rfl (by decide +kernel) (Y_fa fo110_0 h) ?_
  intro v h
  refine G_p 5 rfl (by decide +kernel) (Y_iaa ae108 h) ?_
  intro v h
  refine G_r _ 6 rfl (by decide +kernel) (R_ld sc5 h) ?_
  intro v h
  refine G_p 7 rfl (by decide +kernel) (Y_mv h) ?_
  intro v h
  refine G_p 8 rfl (by decide +kernel) (Y_re h) ?_
  intro v h
  refine G_p 9 rfl (by decide +kernel) (Y_shl h) ?_
  intro v h
  refine G_p 10 rfl (by decide +kernel) (Y_bits rfl h) ?_
  intro v h
  refine G_p 11 rfl (by decide +kernel) (Y_nc h) ?_
  intro v h
  refine G_p 12 rfl (by decide +kernel) (Y_fa fo110_0 h) ?_
  intro v h
  refine G_p 13 rfl (by decide +kernel) (Y_iaa ae108 h) ?_
  intro v h
  refine G_e 14 rfl (by decide +kernel) (P_st on5 h ?_)
  intro w h
  refine ⟨keepF_dep [6] (by decide +kernel) rfl keepF_nil, ?_⟩
  refine G_done (by decide +kernel) ?_
  show bodyPost Tryz.prog Tryz.f72 (Rt Q) .normal _ _
  exact post_tmps (ts := []) (.inl rfl) rfl h

def f73 (t0 : Value) : M := cc Tryz.prog 106 #[(.string ⟨#[0]⟩), t0] fun t4 => rt t4
theorem s73 (t0 : Value) (w : World) (Q : Value → World → Prop) (h : f73 t0 w Q) : Calls Tryz.prog 73 #[t0] w (Rt Q) := by
  refine calls_of (l := [t0]) Tryz.func73 rfl Tryz.ntmps73 (Nat.le_of_ble_eq_true rfl) ?_
  unfold f73 at h
  refine wp_seq ?_
  refine L_region ?_
  refine L_as ?_
  refine L_nil ?_
  refine E_n ?_
  refine wp_seq ?_
  refine L_region ?_
  refine L_mv ?_
  refine L_u (N_cc Tryz.func106 rfl nn106 h) ?_
  intro v w h
  refine L_as ?_
  refine L_nil ?_
  refine E_n ?_
  refine C_ret ?_
  show bodyPost Tryz.prog Tryz.f73 (Rt Q) .ret _ _
  exact post_tmps (ts := [2]) (.inr rfl) rfl h

def f18_b2 (j1 : M) (self2 : Value → Value → M) (t0_1 t5 : Value) : M := nc t0_1 fun t13 => fa 0 t13 fun t14 => ld t14 fun t15 => cl (f28 t15) fun t16 => lt .i64 t5 t16 fun t17 => cnd t17 ( nc t0_1 fun t21 => fa 1 t21 fun t22 => cl (f71 t22 t5) fun t24 => nt t24 fun t25 => cnd t25 ( nc t0_1 fun t27 => fa 1 t27 fun t28 => cl (f72 t28 t5) fun t30 => dr <| idv t0_1 fun t31 => nc t31 fun t32 => fa 1 t32 fun t33 => fa 21 t33 fun t34 => ld t34 fun t35 => idv t5 fun t36 => cl (f73 (.int .i64 256)) fun t37 => kp (Kld t34 t35) <| smu Tryz.prog (Instr.mapUpdate 107 t35 t36 t37) <| rt (.tuple #[t5, (.int .i64 0)]) ) ( ad .i64 t5 (.int .i64 1) fun t19 => self2 t0_1 t19 ) ) ( j1 )
def f18_j1 : M := rt (.tuple #[(.int .i64 0), (.int .i64 8)])
def f18 (t0 : Value) : M := cl (f70 t0) fun t7 => nei .i64 t7 (.int .i64 0) fun t9 => cnd t9 ( rt (.tuple #[(.int .i64 0), t7]) ) ( jn (fun (j1 : M) => lo (fun _ _ => bot) (f18_b2 j1) (fun l => l t0 (.int .i64 1)) ) (f18_j1) )
theorem s18 (t0 : Value) (w : World) (Q : Value → World → Prop) (h : f18 t0 w Q) : Calls Tryz.prog 18 #[t0] w (Rt Q) := by
  refine calls_of (l := [t0]) Tryz.func18 rfl Tryz.ntmps18 (Nat.le_of_ble_eq_true rfl) ?_
  unfold f18 at h
  refine wp_seq ?_
  refine L_region ?_
  refine L_as ?_
  refine L_as ?_
  refine L_nil ?_
  refine E_n ?_
  refine wp_seq ?_
  refine wp_seq ?_
  refine L_region ?_
  refine L_mv ?_
  refine L_u (N_cl Tryz.func70 rfl nn70 (fun w Q h => s70 _ w Q h) h) ?_
  intro v w h
  refine L_as ?_
  refine L_nil ?_
  refine E_n ?_
  refine wp_seq ?_
  refine L_region ?_
  refine L_mv ?_
  refine L_u (P_nei h) ?_
  intro v w h
  refine L_nil ?_
  refine E_n ?_
  refine C_cnd h (fun h => ?_) (fun h => ?_)
  · refine wp_seq ?_
    refine L_region ?_
    refine L_mv ?_
    refine L_as ?_
    refine L_as ?_
    refine L_nil ?_
    refine E_n ?_
    refine C_ret ?_
    show bodyPost Tryz.prog Tryz.f18 (Rt Q) .ret _ _
    exact post_tmps (ts := [2, 3]) (.inr rfl) rfl h
  · refine C_skip ?_
    refine E_n ?_
    refine wp_seq ?_
    refine wp_seq ?_
    refine L_region ?_
    refine L_as ?_
    refine L_nil ?_
    refine E_n ?_
    refine C_join (fun (k : M) (ρ : Nat → Value) => k) h (fun j1 J1 h => ?_) (fun ρ w h => ?_)
    · refine C_blk ?_
      refine C_lo (fun (l : Value → Value → M) (ρ : Nat → Value) => l (ρ 0) (ρ 5)) h (fun ρ w h => h) (fun nx self2 L2 ρ w h => ?_)
      unfold f18_b2 at h
      refine wp_seq ?_
      refine wp_seq ?_
      refine L_region ?_
      refine L_mv ?_
      refine L_mv ?_
      refine L_u (P_nc h) ?_
      intro v w h
      refine L_u (P_fa fo113_0 h) ?_
      intro v w h
      refine L_u (P_ld sc29 h) ?_
      intro v w h
      refine L_u (N_cl Tryz.func28 rfl nn28 (fun w Q h => s28 _ w Q h) h) ?_
      intro v w h
      refine L_u (P_lt h) ?_
      intro v w h
      refine L_nil ?_
      refine E_n ?_
      refine C_cnd h (fun h => ?_) (fun h => ?_)
      · refine C_skip ?_
        refine E_n ?_
        refine wp_seq ?_
        refine C_blk ?_
        refine wp_seq ?_
        refine L_region ?_
        refine L_mv ?_
        refine L_u (P_nc h) ?_
        intro v w h
        refine L_u (P_fa fo113_1 h) ?_
        intro v w h
        refine L_mv ?_
        refine L_u (N_cl Tryz.func71 rfl nn71 (fun w Q h => s71 _ _ w Q h) h) ?_
        intro v w h
        refine L_u (P_nt h) ?_
        intro v w h
        refine L_nil ?_
        refine E_n ?_
        refine C_cnd h (fun h => ?_) (fun h => ?_)
        · refine wp_seq ?_
          refine L_region ?_
          refine L_mv ?_
          refine L_u (P_nc h) ?_
          intro v w h
          refine L_u (P_fa fo113_1 h) ?_
          intro v w h
          refine L_mv ?_
          refine L_u (N_cl Tryz.func72 rfl nn72 (fun w Q h => s72 _ _ w Q h) h) ?_
          intro v w h
          refine L_nil ?_
          refine E_n ?_
          refine wp_seq ?_
          refine D_region (by decide +kernel) 8 rfl ?_
          replace h := dr_e h
          refine G_p 0 rfl (by decide +kernel) (Y_mv h) ?_
          intro v h
          refine G_p 1 rfl (by decide +kernel) (Y_nc h) ?_
          intro v h
          refine G_p 2 rfl (by decide +kernel) (Y_fa fo113_1 h) ?_
          intro v h
          refine G_p 3 rfl (by decide +kernel) (Y_fa fo110_2 h) ?_
          intro v h
          refine G_r _ 4 rfl (by decide +kernel) (R_ld sc107 h) ?_
          intro v h
          refine G_p 5 rfl (by decide +kernel) (Y_mv h) ?_
          intro v h
          refine G_e 6 rfl (by decide +kernel) (N_cl Tryz.func73 rfl nn73 (fun w Q h => s73 _ w Q h) h ?_)
          intro v w h
          refine ⟨keepF_cons (kp_1 h) keepF_nil, ?_⟩
          replace h := (kp_2 h)
          refine G_e 7 rfl (by decide +kernel) (P_smu rfl h ?_)
          intro w h
          refine ⟨keepF_dep [4] (by decide +kernel) rfl keepF_nil, ?_⟩
          refine G_done (by decide +kernel) ?_
          refine E_n ?_
          refine wp_seq ?_
          refine L_region ?_
          refine L_mv ?_
          refine L_as ?_
          refine L_as ?_
          refine L_nil ?_
          refine E_n ?_
          refine C_ret ?_
          show bodyPost Tryz.prog Tryz.f18 (Rt Q) .ret _ _
          exact post_tmps (ts := [2, 3]) (.inr rfl) rfl h
        · refine C_skip ?_
          refine B_n ?_
          refine E_n ?_
          refine L_region ?_
          refine L_mv ?_
          refine L_u (P_ad h) ?_
          intro v w h
          refine L_as ?_
          refine L_nil ?_
          refine E_n ?_
          exact L2 _ _ h
      · refine C_exit ?_
        refine E_x ?_
        refine E_x ?_
        refine B_x ?_
        exact J1 _ _ h
    · unfold f18_j1 at h
      refine E_n ?_
      refine wp_seq ?_
      refine L_region ?_
      refine L_as ?_
      refine L_as ?_
      refine L_nil ?_
      refine E_n ?_
      refine C_ret ?_
      show bodyPost Tryz.prog Tryz.f18 (Rt Q) .ret _ _
      exact post_tmps (ts := [2, 3]) (.inr rfl) rfl h

def f19_j3 (self2 : Value → Value → Value → M) (t0_2 t3_1 t4_1 : Value) : M := ad .i64 t4_1 (.int .i64 1) fun t16 => self2 t0_2 t3_1 t16
def f19_b2 (j1 : Value → M) (self2 : Value → Value → Value → M) (t0_1 t3 t4 : Value) : M := nc t0_1 fun t10 => fa 0 t10 fun t11 => ld t11 fun t12 => cl (f28 t12) fun t13 => lt .i64 t4 t13 fun t14 => cnd t14 ( nc t0_1 fun t18 => fa 1 t18 fun t19 => cl (f71 t19 t4) fun t21 => jn (fun (j3 : Value → Value → Value → M) => cnd t21 ( ad .i64 t3 (.int .i64 1) fun t23 => j3 t0_1 t23 t4 ) ( j3 t0_1 t3 t4 ) ) (f19_j3 self2) ) ( j1 t3 )
def f19_j1 (t3_2 : Value) : M := rt t3_2
def f19 (t0 : Value) : M := cl (f70 t0) fun t6 => nei .i64 t6 (.int .i64 0) fun t7 => cnd t7 ( rt (.int .i64 0) ) ( jn (fun (j1 : Value → M) => lo (fun _ _ _ => bot) (f19_b2 j1) (fun l => l t0 (.int .i64 1) (.int .i64 1)) ) (f19_j1) )
theorem s19 (t0 : Value) (w : World) (Q : Value → World → Prop) (h : f19 t0 w Q) : Calls Tryz.prog 19 #[t0] w (Rt Q) := by
  refine calls_of (l := [t0]) Tryz.func19 rfl Tryz.ntmps19 (Nat.le_of_ble_eq_true rfl) ?_
  unfold f19 at h
  refine wp_seq ?_
  refine L_region ?_
  refine L_as ?_
  refine L_nil ?_
  refine E_n ?_
  refine wp_seq ?_
  refine wp_seq ?_
  refine L_region ?_
  refine L_mv ?_
  refine L_u (N_cl Tryz.func70 rfl nn70 (fun w Q h => s70 _ w Q h) h) ?_
  intro v w h
  refine L_u (P_nei h) ?_
  intro v w h
  refine L_nil ?_
  refine E_n ?_
  refine C_cnd h (fun h => ?_) (fun h => ?_)
  · refine wp_seq ?_
    refine L_region ?_
    refine L_as ?_
    refine L_nil ?_
    refine E_n ?_
    refine C_ret ?_
    show bodyPost Tryz.prog Tryz.f19 (Rt Q) .ret _ _
    exact post_tmps (ts := [2]) (.inr rfl) rfl h
  · refine C_skip ?_
    refine E_n ?_
    refine wp_seq ?_
    refine L_region ?_
    refine L_as ?_
    refine L_nil ?_
    refine E_n ?_
    refine wp_seq ?_
    refine wp_seq ?_
    refine L_region ?_
    refine L_as ?_
    refine L_nil ?_
    refine E_n ?_
    refine C_join (fun (k : Value → M) (ρ : Nat → Value) => k (ρ 3)) h (fun j1 J1 h => ?_) (fun ρ w h => ?_)
    · refine C_blk ?_
      refine C_lo (fun (l : Value → Value → Value → M) (ρ : Nat → Value) => l (ρ 0) (ρ 3) (ρ 4)) h (fun ρ w h => h) (fun nx self2 L2 ρ w h => ?_)
      unfold f19_b2 at h
      refine wp_seq ?_
      refine wp_seq ?_
      refine L_region ?_
      refine L_mv ?_
      refine L_mv ?_
      refine L_u (P_nc h) ?_
      intro v w h
      refine L_u (P_fa fo113_0 h) ?_
      intro v w h
      refine L_u (P_ld sc29 h) ?_
      intro v w h
      refine L_u (N_cl Tryz.func28 rfl nn28 (fun w Q h => s28 _ w Q h) h) ?_
      intro v w h
      refine L_u (P_lt h) ?_
      intro v w h
      refine L_nil ?_
      refine E_n ?_
      refine C_cnd h (fun h => ?_) (fun h => ?_)
      · refine C_skip ?_
        refine E_n ?_
        refine wp_seq ?_
        refine C_blk ?_
        refine wp_seq ?_
        refine L_region ?_
        refine L_mv ?_
        refine L_u (P_nc h) ?_
        intro v w h
        refine L_u (P_fa fo113_1 h) ?_
        intro v w h
        refine L_mv ?_
        refine L_u (N_cl Tryz.func71 rfl nn71 (fun w Q h => s71 _ _ w Q h) h) ?_
        intro v w h
        refine L_nil ?_
        refine E_n ?_
        refine C_join (fun (k : Value → Value → Value → M) (ρ : Nat → Value) => k (ρ 0) (ρ 3) (ρ 4)) h (fun j3 J3 h => ?_) (fun ρ w h => ?_)
        · refine C_cnd h (fun h => ?_) (fun h => ?_)
          · refine L_region ?_
            refine L_mv ?_
            refine L_u (P_ad h) ?_
            intro v w h
            refine L_as ?_
            refine L_nil ?_
            exact J3 _ _ h
          · refine C_skip ?_
            exact J3 _ _ h
        · unfold f19_j3 at h
          refine B_n ?_
          refine E_n ?_
          refine L_region ?_
          refine L_mv ?_
          refine L_u (P_ad h) ?_
          intro v w h
          refine L_as ?_
          refine L_nil ?_
          refine E_n ?_
          exact L2 _ _ h
      · refine C_exit ?_
        refine E_x ?_
        refine E_x ?_
        refine B_x ?_
        exact J1 _ _ h
    · unfold f19_j1 at h
      refine E_n ?_
      refine wp_seq ?_
      refine L_region ?_
      refine L_mv ?_
      refine L_as ?_
      refine L_nil ?_
      refine E_n ?_
      refine C_ret ?_
      show bodyPost Tryz.prog Tryz.f19 (Rt Q) .ret _ _
      exact post_tmps (ts := [2]) (.inr rfl) rfl h

def f74 (t0 t1 : Value) : M := cl (f70 t0) fun t7 => nei .i64 t7 (.int .i64 0) fun t9 => cnd t9 ( rt t7 ) ( le .i64 t1 (.int .i64 0) fun t12 => gd t12 false (idv t1) fun t14 => gd t12 false (idv t0) fun t15 => gd t12 false (nc t15) fun t16 => gd t12 false (fa 0 t16) fun t17 => gd t12 false (ld t17) fun t18 => gd t12 false (cl (f28 t18)) fun t19 => gd t12 false (ge .i64 t14 t19) fun t20 => pk t12 (.bool true) t20 fun t21 => gd t21 false (idv t0) fun t23 => gd t21 false (nc t23) fun t24 => gd t21 false (fa 1 t24) fun t25 => gd t21 false (idv t1) fun t26 => gd t21 false (cl (f71 t25 t26)) fun t27 => gd t21 false (nt t27) fun t28 => pk t21 (.bool true) t28 fun t29 => cnd t29 ( rt (.int .i64 7) ) ( rt (.int .i64 0) ) )
theorem s74 (t0 t1 : Value) (w : World) (Q : Value → World → Prop) (h : f74 t0 t1 w Q) : Calls Tryz.prog 74 #[t0, t1] w (Rt Q) := by
  refine calls_of (l := [t0, t1]) Tryz.func74 rfl Tryz.ntmps74 (Nat.le_of_ble_eq_true rfl) ?_
  unfold f74 at h
  refine wp_seq ?_
  refine L_region ?_
  refine L_as ?_
  refine L_nil ?_
  refine E_n ?_
  refine wp_seq ?_
  refine wp_seq ?_
  refine L_region ?_
  refine L_mv ?_
  refine L_u (N_cl Tryz.func70 rfl nn70 (fun w Q h => s70 _ w Q h) h) ?_
  intro v w h
  refine L_as ?_
  refine L_nil ?_
  refine E_n ?_
  refine wp_seq ?_
  refine L_region ?_
  refine L_mv ?_
  refine L_u (P_nei h) ?_
  intro v w h
  refine L_nil ?_
  refine E_n ?_
  refine C_cnd h (fun h => ?_) (fun h => ?_)
  · refine wp_seq ?_
    refine L_region ?_
    refine L_mv ?_
    refine L_as ?_
    refine L_nil ?_
    refine E_n ?_
    refine C_ret ?_
    show bodyPost Tryz.prog Tryz.f74 (Rt Q) .ret _ _
    exact post_tmps (ts := [4]) (.inr rfl) rfl h
  · refine C_skip ?_
    refine E_n ?_
    refine wp_seq ?_
    refine wp_seq ?_
    refine L_region ?_
    refine L_mv ?_
    refine L_u (P_le h) ?_
    intro v w h
    refine L_mv ?_
    refine L_g (t := 13) h rfl rfl (fun c h => P_mv h c) ?_
    intro v w h
    refine L_g (t := 13) h rfl rfl (fun c h => P_mv h c) ?_
    intro v w h
    refine L_g (t := 13) h rfl rfl (fun c h => P_nc h c) ?_
    intro v w h
    refine L_g (t := 13) h rfl rfl (fun c h => P_fa fo113_0 h c) ?_
    intro v w h
    refine L_g (t := 13) h rfl rfl (fun c h => P_ld sc29 h c) ?_
    intro v w h
    refine L_g (t := 13) h rfl rfl (fun c h => N_cl Tryz.func28 rfl nn28 (fun w Q h => s28 _ w Q h) h c) ?_
    intro v w h
    refine L_g (t := 13) h rfl rfl (fun c h => P_ge h c) ?_
    intro v w h
    refine L_u (P_pk h) ?_
    intro v w h
    refine L_mv ?_
    refine L_g (t := 22) h rfl rfl (fun c h => P_mv h c) ?_
    intro v w h
    refine L_g (t := 22) h rfl rfl (fun c h => P_nc h c) ?_
    intro v w h
    refine L_g (t := 22) h rfl rfl (fun c h => P_fa fo113_1 h c) ?_
    intro v w h
    refine L_g (t := 22) h rfl rfl (fun c h => P_mv h c) ?_
    intro v w h
    refine L_g (t := 22) h rfl rfl (fun c h => N_cl Tryz.func71 rfl nn71 (fun w Q h => s71 _ _ w Q h) h c) ?_
    intro v w h
    refine L_g (t := 22) h rfl rfl (fun c h => P_nt h c) ?_
    intro v w h
    refine L_u (P_pk h) ?_
    intro v w h
    refine L_nil ?_
    refine E_n ?_
    refine C_cnd h (fun h => ?_) (fun h => ?_)
    · refine wp_seq ?_
      refine L_region ?_
      refine L_as ?_
      refine L_nil ?_
      refine E_n ?_
      refine C_ret ?_
      show bodyPost Tryz.prog Tryz.f74 (Rt Q) .ret _ _
      exact post_tmps (ts := [4]) (.inr rfl) rfl h
    · refine C_skip ?_
      refine E_n ?_
      refine wp_seq ?_
      refine L_region ?_
      refine L_as ?_
      refine L_nil ?_
      refine E_n ?_
      refine C_ret ?_
      show bodyPost Tryz.prog Tryz.f74 (Rt Q) .ret _ _
      exact post_tmps (ts := [4]) (.inr rfl) rfl h

def f20_j1 (t5 : Value) : M := rt t5
def f20 (t0 t1 : Value) : M := cl (f74 t0 t1) fun t8 => eqi .i64 t8 (.int .i64 0) fun t10 => jn (fun (j1 : Value → M) => cnd t10 ( nc t0 fun t12 => fa 1 t12 fun t13 => cl (f72 t13 t1) fun t15 => j1 t8 ) ( j1 t8 ) ) (f20_j1)
theorem s20 (t0 t1 : Value) (w : World) (Q : Value → World → Prop) (h : f20 t0 t1 w Q) : Calls Tryz.prog 20 #[t0, t1] w (Rt Q) := by
  refine calls_of (l := [t0, t1]) Tryz.func20 rfl Tryz.ntmps20 (Nat.le_of_ble_eq_true rfl) ?_
  unfold f20 at h
  refine wp_seq ?_
  refine L_region ?_
  refine L_as ?_
  refine L_nil ?_
  refine E_n ?_
  refine wp_seq ?_
  refine L_region ?_
  refine L_mv ?_
  refine L_mv ?_
  refine L_u (N_cl Tryz.func74 rfl nn74 (fun w Q h => s74 _ _ w Q h) h) ?_
  intro v w h
  refine L_as ?_
  refine L_nil ?_
  refine E_n ?_
  refine wp_seq ?_
  refine wp_seq ?_
  refine L_region ?_
  refine L_mv ?_
  refine L_u (P_eqi h) ?_
  intro v w h
  refine L_nil ?_
  refine E_n ?_
  refine C_join (fun (k : Value → M) (ρ : Nat → Value) => k (ρ 5)) h (fun j1 J1 h => ?_) (fun ρ w h => ?_)
  · refine C_cnd h (fun h => ?_) (fun h => ?_)
    · refine L_region ?_
      refine L_mv ?_
      refine L_u (P_nc h) ?_
      intro v w h
      refine L_u (P_fa fo113_1 h) ?_
      intro v w h
      refine L_mv ?_
      refine L_u (N_cl Tryz.func72 rfl nn72 (fun w Q h => s72 _ _ w Q h) h) ?_
      intro v w h
      refine L_nil ?_
      exact J1 _ _ h
    · refine C_skip ?_
      exact J1 _ _ h
  · unfold f20_j1 at h
    refine E_n ?_
    refine wp_seq ?_
    refine L_region ?_
    refine L_mv ?_
    refine L_as ?_
    refine L_nil ?_
    refine E_n ?_
    refine C_ret ?_
    show bodyPost Tryz.prog Tryz.f20 (Rt Q) .ret _ _
    exact post_tmps (ts := [4]) (.inr rfl) rfl h

def f14 : M := cl (f17 (.int .i64 4)) fun t11 => cl (f16 t11) fun t12 => ex 0 t12 fun t13 => ex 1 t12 fun t14 => nei .i64 t14 (.int .i64 0) fun t16 => gd t16 false (idv t13) fun t18 => gd t16 false (smr Tryz.prog (do eqGuard .eql 25 (.tmp 18) (.const (.pointer none)) t18 (.pointer none); binOp .eql 25 t18 (.pointer none))) fun t19 => pk t16 (.bool true) t19 fun t20 => cnd t20 ( rt (.bool false) ) ( cl (f18 t13) fun t23 => ex 0 t23 fun t24 => ex 1 t23 fun t25 => cl (f18 t13) fun t28 => ex 0 t28 fun t29 => ex 1 t28 fun t30 => cl (f20 t13 (.int .i64 1)) fun t32 => cl (f18 t13) fun t35 => ex 0 t35 fun t36 => ex 1 t35 fun t37 => eqi .i64 t25 (.int .i64 0) fun t39 => gd t39 true (idv t30) fun t41 => gd t39 true (eqi .i64 t41 (.int .i64 0)) fun t42 => pk t39 t42 (.bool false) fun t43 => gd t43 true (idv t32) fun t45 => gd t43 true (eqi .i64 t45 (.int .i64 0)) fun t46 => pk t43 t46 (.bool false) fun t47 => gd t47 true (idv t37) fun t49 => gd t47 true (eqi .i64 t49 (.int .i64 0)) fun t50 => pk t47 t50 (.bool false) fun t51 => gd t51 true (idv t24) fun t53 => gd t51 true (eqi .i64 t53 (.int .i64 1)) fun t54 => pk t51 t54 (.bool false) fun t55 => gd t55 true (idv t29) fun t57 => gd t55 true (eqi .i64 t57 (.int .i64 2)) fun t58 => pk t55 t58 (.bool false) fun t59 => gd t59 true (idv t36) fun t61 => gd t59 true (eqi .i64 t61 (.int .i64 1)) fun t62 => pk t59 t62 (.bool false) fun t63 => gd t63 true (idv t13) fun t65 => gd t63 true (cl (f19 t65)) fun t66 => gd t63 true (eqi .i64 t66 (.int .i64 3)) fun t67 => pk t63 t67 (.bool false) fun t68 => rt t68 )
theorem s14 (w : World) (Q : Value → World → Prop) (h : f14 w Q) : Calls Tryz.prog 14 #[] w (Rt Q) := by
  refine calls_of (l := []) Tryz.func14 rfl Tryz.ntmps14 (Nat.le_of_ble_eq_true rfl) ?_
  unfold f14 at h
  refine wp_seq ?_
  refine L_region ?_
  refine L_as ?_
  refine L_nil ?_
  refine E_n ?_
  refine wp_seq ?_
  refine L_region ?_
  refine L_u (N_cl Tryz.func17 rfl nn17 (fun w Q h => s17 _ w Q h) h) ?_
  intro v w h
  refine L_u (N_cl Tryz.func16 rfl nn16 (fun w Q h => s16 _ w Q h) h) ?_
  intro v w h
  refine L_mv ?_
  refine L_u (P_ex h) ?_
  intro v w h
  refine L_u (P_ex h) ?_
  intro v w h
  refine L_as ?_
  refine L_as ?_
  refine L_nil ?_
  refine E_n ?_
  refine wp_seq ?_
  refine wp_seq ?_
  refine L_region ?_
  refine L_mv ?_
  refine L_u (P_nei h) ?_
  intro v w h
  refine L_mv ?_
  refine L_g (t := 17) h rfl rfl (fun c h => P_mv h c) ?_
  intro v w h
  refine L_g (t := 17) h rfl rfl (fun c h => P_smr rfl h c) ?_
  intro v w h
  refine L_u (P_pk h) ?_
  intro v w h
  refine L_nil ?_
  refine E_n ?_
  refine C_cnd h (fun h => ?_) (fun h => ?_)
  · refine wp_seq ?_
    refine L_region ?_
    refine L_as ?_
    refine L_nil ?_
    refine E_n ?_
    refine C_ret ?_
    show bodyPost Tryz.prog Tryz.f14 (Rt Q) .ret _ _
    exact post_tmps (ts := [0]) (.inr rfl) rfl h
  · refine C_skip ?_
    refine E_n ?_
    refine wp_seq ?_
    refine L_region ?_
    refine L_mv ?_
    refine L_u (N_cl Tryz.func18 rfl nn18 (fun w Q h => s18 _ w Q h) h) ?_
    intro v w h
    refine L_mv ?_
    refine L_u (P_ex h) ?_
    intro v w h
    refine L_u (P_ex h) ?_
    intro v w h
    refine L_as ?_
    refine L_as ?_
    refine L_nil ?_
    refine E_n ?_
    refine wp_seq ?_
    refine L_region ?_
    refine L_mv ?_
    refine L_u (N_cl Tryz.func18 rfl nn18 (fun w Q h => s18 _ w Q h) h) ?_
    intro v w h
    refine L_mv ?_
    refine L_u (P_ex h) ?_
    intro v w h
    refine L_u (P_ex h) ?_
    intro v w h
    refine L_as ?_
    refine L_as ?_
    refine L_nil ?_
    refine E_n ?_
    refine wp_seq ?_
    refine L_region ?_
    refine L_mv ?_
    refine L_u (N_cl Tryz.func20 rfl nn20 (fun w Q h => s20 _ _ w Q h) h) ?_
    intro v w h
    refine L_as ?_
    refine L_nil ?_
    refine E_n ?_
    refine wp_seq ?_
    refine L_region ?_
    refine L_mv ?_
    refine L_u (N_cl Tryz.func18 rfl nn18 (fun w Q h => s18 _ w Q h) h) ?_
    intro v w h
    refine L_mv ?_
    refine L_u (P_ex h) ?_
    intro v w h
    refine L_u (P_ex h) ?_
    intro v w h
    refine L_as ?_
    refine L_as ?_
    refine L_nil ?_
    refine E_n ?_
    refine wp_seq ?_
    refine L_region ?_
    refine L_mv ?_
    refine L_u (P_eqi h) ?_
    intro v w h
    refine L_mv ?_
    refine L_g (t := 40) h rfl rfl (fun c h => P_mv h c) ?_
    intro v w h
    refine L_g (t := 40) h rfl rfl (fun c h => P_eqi h c) ?_
    intro v w h
    refine L_u (P_pk h) ?_
    intro v w h
    refine L_mv ?_
    refine L_g (t := 44) h rfl rfl (fun c h => P_mv h c) ?_
    intro v w h
    refine L_g (t := 44) h rfl rfl (fun c h => P_eqi h c) ?_
    intro v w h
    refine L_u (P_pk h) ?_
    intro v w h
    refine L_mv ?_
    refine L_g (t := 48) h rfl rfl (fun c h => P_mv h c) ?_
    intro v w h
    refine L_g (t := 48) h rfl rfl (fun c h => P_eqi h c) ?_
    intro v w h
    refine L_u (P_pk h) ?_
    intro v w h
    refine L_mv ?_
    refine L_g (t := 52) h rfl rfl (fun c h => P_mv h c) ?_
    intro v w h
    refine L_g (t := 52) h rfl rfl (fun c h => P_eqi h c) ?_
    intro v w h
    refine L_u (P_pk h) ?_
    intro v w h
    refine L_mv ?_
    refine L_g (t := 56) h rfl rfl (fun c h => P_mv h c) ?_
    intro v w h
    refine L_g (t := 56) h rfl rfl (fun c h => P_eqi h c) ?_
    intro v w h
    refine L_u (P_pk h) ?_
    intro v w h
    refine L_mv ?_
    refine L_g (t := 60) h rfl rfl (fun c h => P_mv h c) ?_
    intro v w h
    refine L_g (t := 60) h rfl rfl (fun c h => P_eqi h c) ?_
    intro v w h
    refine L_u (P_pk h) ?_
    intro v w h
    refine L_mv ?_
    refine L_g (t := 64) h rfl rfl (fun c h => P_mv h c) ?_
    intro v w h
    refine L_g (t := 64) h rfl rfl (fun c h => N_cl Tryz.func19 rfl nn19 (fun w Q h => s19 _ w Q h) h c) ?_
    intro v w h
    refine L_g (t := 64) h rfl rfl (fun c h => P_eqi h c) ?_
    intro v w h
    refine L_u (P_pk h) ?_
    intro v w h
    refine L_as ?_
    refine L_nil ?_
    refine E_n ?_
    refine C_ret ?_
    show bodyPost Tryz.prog Tryz.f14 (Rt Q) .ret _ _
    exact post_tmps (ts := [0]) (.inr rfl) rfl h

def f15 (t0 : Value) : M := cv .u64 t0 fun t4 => re .u64 t4 (.int .u64 40) fun t5 => cv .i64 t5 fun t6 => ad .i64 (.int .i64 1) t6 fun t7 => rt t7
theorem s15 (t0 : Value) (w : World) (Q : Value → World → Prop) (h : f15 t0 w Q) : Calls Tryz.prog 15 #[t0] w (Rt Q) := by
  refine calls_of (l := [t0]) Tryz.func15 rfl Tryz.ntmps15 (Nat.le_of_ble_eq_true rfl) ?_
  unfold f15 at h
  refine wp_seq ?_
  refine L_region ?_
  refine L_as ?_
  refine L_nil ?_
  refine E_n ?_
  refine wp_seq ?_
  refine L_region ?_
  refine L_mv ?_
  refine L_u (P_cv ai3 in37 h) ?_
  intro v w h
  refine L_u (P_re h) ?_
  intro v w h
  refine L_u (P_cv ai37 in3 h) ?_
  intro v w h
  refine L_u (P_ad h) ?_
  intro v w h
  refine L_as ?_
  refine L_nil ?_
  refine E_n ?_
  refine C_ret ?_
  show bodyPost Tryz.prog Tryz.f15 (Rt Q) .ret _ _
  exact post_tmps (ts := [2]) (.inr rfl) rfl h

def f24 (t0 : Value) : M := cl (f39 t0) fun t7 => cl (f38 t7) fun t8 => cl (f40 t8 t0) fun t10 => ex 0 t10 fun t11 => ex 1 t10 fun t12 => nei .i64 t12 (.int .i64 0) fun t14 => cnd t14 ( rt (.pointer none) ) ( rt t11 )
def f31 (t0 : Value) : M := smr Tryz.prog (do eqGuard .eql 29 (.tmp 3) (.const (.pointer none)) t0 (.pointer none); binOp .eql 29 t0 (.pointer none)) fun t4 => cnd t4 ( rt (.int .i64 0) ) ( nc t0 fun t6 => fa 8 t6 fun t7 => ld t7 fun t8 => rt t8 )
def f32 (t0 : Value) : M := smr Tryz.prog (do eqGuard .eql 29 (.tmp 3) (.const (.pointer none)) t0 (.pointer none); binOp .eql 29 t0 (.pointer none)) fun t4 => cnd t4 ( rt (.int .i64 0) ) ( nc t0 fun t6 => fa 9 t6 fun t7 => ld t7 fun t8 => rt t8 )
def f33_b2 (j1 : M) (self2 : Value → Value → Value → M) (t0_1 t1_1 t5 : Value) : M := lnl t0_1 fun t13 => lt .i64 t5 t13 fun t14 => cnd t14 ( dr <| idv t0_1 fun t17 => idv t5 fun t18 => ia 1 t17 t18 fun t19 => ld t19 fun t20 => idv t1_1 fun t21 => idv t5 fun t22 => ia 1 t21 t22 fun t23 => ld t23 fun t24 => nei .i64 t20 t24 fun t25 => cnd t25 ( rt (.bool false) ) ( ad .i64 t5 (.int .i64 1) fun t16 => self2 t0_1 t1_1 t16 ) ) ( j1 )
def f33_j1 : M := rt (.bool true)
def f33 (t0 t1 : Value) : M := lnl t0 fun t7 => lnl t1 fun t9 => nei .i64 t7 t9 fun t10 => cnd t10 ( rt (.bool false) ) ( jn (fun (j1 : M) => lo (fun _ _ _ => bot) (f33_b2 j1) (fun l => l t0 t1 (.int .i64 0)) ) (f33_j1) )
theorem s33 (t0 t1 : Value) (w : World) (Q : Value → World → Prop) (h : f33 t0 t1 w Q) : Calls Tryz.prog 33 #[t0, t1] w (Rt Q) := by
  refine calls_of (l := [t0, t1]) Tryz.func33 rfl Tryz.ntmps33 (Nat.le_of_ble_eq_true rfl) ?_
  unfold f33 at h
  refine wp_seq ?_
  refine L_region ?_
  refine L_as ?_
  refine L_nil ?_
  refine E_n ?_
  refine wp_seq ?_
  refine wp_seq ?_
  refine L_region ?_
  refine L_mv ?_
  refine L_u (P_lnl is22 h) ?_
  intro v w h
  refine L_mv ?_
  refine L_u (P_lnl is22 h) ?_
  intro v w h
  refine L_u (P_nei h) ?_
  intro v w h
  refine L_nil ?_
  refine E_n ?_
  refine C_cnd h (fun h => ?_) (fun h => ?_)
  · refine wp_seq ?_
    refine L_region ?_
    refine L_as ?_
    refine L_nil ?_
    refine E_n ?_
    refine C_ret ?_
    show bodyPost Tryz.prog Tryz.f33 (Rt Q) .ret _ _
    exact post_tmps (ts := [4]) (.inr rfl) rfl h
  · refine C_skip ?_
    refine E_n ?_
    refine wp_seq ?_
    refine wp_seq ?_
    refine L_region ?_
    refine L_as ?_
    refine L_nil ?_
    refine E_n ?_
    refine C_join (fun (k : M) (ρ : Nat → Value) => k) h (fun j1 J1 h => ?_) (fun ρ w h => ?_)
    · refine C_blk ?_
      refine C_lo (fun (l : Value → Value → Value → M) (ρ : Nat → Value) => l (ρ 0) (ρ 1) (ρ 5)) h (fun ρ w h => h) (fun nx self2 L2 ρ w h => ?_)
      unfold f33_b2 at h
      refine wp_seq ?_
      refine wp_seq ?_
      refine L_region ?_
      refine L_mv ?_
      refine L_mv ?_
      refine L_u (P_lnl is22 h) ?_
      intro v w h
      refine L_u (P_lt h) ?_
      intro v w h
      refine L_nil ?_
      refine E_n ?_
      refine C_cnd h (fun h => ?_) (fun h => ?_)
      · refine C_skip ?_
        refine E_n ?_
        refine wp_seq ?_
        refine C_blk ?_
        refine wp_seq ?_
        refine D_region (by decide +kernel) 9 rfl ?_
        replace h := dr_e h
        refine G_p 0 rfl (by decide +kernel) (Y_mv h) ?_
        intro v h
        refine G_p 1 rfl (by decide +kernel) (Y_mv h) ?_
        intro v h
        refine G_p 2 rfl (by decide +kernel) (Y_ia se22 h) ?_
        intro v h
        refine G_r _ 3 rfl (by decide +kernel) (R_ld sc3 h) ?_
        intro v h
        refine G_p 4 rfl (by decide +kernel) (Y_mv h) ?_
        intro v h
        refine G_p 5 rfl (by decide +kernel) (Y_mv h) ?_
        intro v h
        refine G_p 6 rfl (by decide +kernel) (Y_ia se22 h) ?_
        intro v h
        refine G_r _ 7 rfl (by decide +kernel) (R_ld sc3 h) ?_
        intro v h
        refine G_p 8 rfl (by decide +kernel) (Y_nei h) ?_
        intro v h
        refine G_done (by decide +kernel) ?_
        refine E_n ?_
        refine C_cnd h (fun h => ?_) (fun h => ?_)
        · refine wp_seq ?_
          refine L_region ?_
          refine L_as ?_
          refine L_nil ?_
          refine E_n ?_
          refine C_ret ?_
          show bodyPost Tryz.prog Tryz.f33 (Rt Q) .ret _ _
          exact post_tmps (ts := [4]) (.inr rfl) rfl h
        · refine C_skip ?_
          refine B_n ?_
          refine E_n ?_
          refine L_region ?_
          refine L_mv ?_
          refine L_u (P_ad h) ?_
          intro v w h
          refine L_as ?_
          refine L_nil ?_
          refine E_n ?_
          exact L2 _ _ h
      · refine C_exit ?_
        refine E_x ?_
        refine E_x ?_
        refine B_x ?_
        exact J1 _ _ h
    · unfold f33_j1 at h
      refine E_n ?_
      refine wp_seq ?_
      refine L_region ?_
      refine L_as ?_
      refine L_nil ?_
      refine E_n ?_
      refine C_ret ?_
      show bodyPost Tryz.prog Tryz.f33 (Rt Q) .ret _ _
      exact post_tmps (ts := [4]) (.inr rfl) rfl h
end Go.Proofs.YtongpnolikkknaaGreatDoor

set_option maxRecDepth 20000
set_option maxHeartbeats 4000000
namespace Go.Proofs.YtongpnolikkknaaGreatDoor
open Sh
attribute [local irreducible] wpL anyG act jn lo gdB amb kp smr nc fa ld ldn st stn ad su mu qu re lt le gt ge eqi nei bws shl shr cat eqs nes lts gts eqb neb nt pk cv al bx ex fld fldn lnl lns ia iaa ixs sls sll sla mif mnm mxm mm asrt sm smu cl cc cf ci cnd gd gdu
def f34_b2 (j1 : Value → M) (self2 : Value → Value → Value → M) (t0_1 t3 t4 : Value) : M := nc t0_1 fun t15 => fa 2 t15 fun t16 => fa 0 t16 fun t17 => smr Tryz.prog (do eqGuard .neq 116 (.tmp 13) (.tmp 17) t4 t17; binOp .neq 116 t4 t17) fun t18 => cnd t18 ( nc t4 fun t25 => fa 2 t25 fun t26 => fa 0 t26 fun t27 => ld t27 fun t28 => sm Tryz.prog (Instr.buildSlice 22 1 #[(0, t28)]) fun t29 => sm Tryz.prog (Builtin.append_ #[22, 22] 22 #[t3, t29]) fun t30 => nc t4 fun t20 => fa 1 t20 fun t21 => ld t21 fun t22 => self2 t0_1 t30 t22 ) ( j1 t3 )
def f34_j1 (t3_1 : Value) : M := rt t3_1
def f34 (t0 : Value) : M := smr Tryz.prog (do eqGuard .eql 29 (.tmp 5) (.const (.pointer none)) t0 (.pointer none); binOp .eql 29 t0 (.pointer none)) fun t6 => cnd t6 ( rt (.slice none 0 0) ) ( nc t0 fun t8 => fa 2 t8 fun t9 => fa 0 t9 fun t10 => fa 1 t10 fun t11 => ld t11 fun t12 => jn (fun (j1 : Value → M) => lo (fun _ _ _ => bot) (f34_b2 j1) (fun l => l t0 (.slice none 0 0) t12) ) (f34_j1) )
def f21_b2 (j1 : Value → M) (self2 : Value → Value → Value → M) (t1 t2 t3 : Value) : M := lnl t2 fun t13 => lt .i64 t3 t13 fun t14 => cnd t14 ( ia 1 t2 t3 fun t21 => ld t21 fun t22 => cl (f27 t1 t22) fun t23 => ex 0 t23 fun t24 => ex 1 t23 fun t25 => nei .i64 t25 (.int .i64 0) fun t27 => gd t27 false (idv t24) fun t29 => gd t27 false (lns t29) fun t30 => gd t27 false (nei .i64 t30 (.int .i64 256)) fun t31 => pk t27 (.bool true) t31 fun t32 => cnd t32 ( rt (.bool false) ) ( ad .i64 t3 (.int .i64 1) fun t16 => self2 t1 t2 t16 ) ) ( j1 t1 )
def f21_j1 (t1_1 : Value) : M := cl (f31 t1_1) fun t34 => eqi .i64 t34 (.int .i64 2) fun t35 => gd t35 true (idv t1_1) fun t37 => gd t35 true (cl (f32 t37)) fun t38 => gd t35 true (eqi .i64 t38 (.int .i64 3)) fun t39 => pk t35 t39 (.bool false) fun t40 => gd t40 true (idv t1_1) fun t42 => gd t40 true (cl (f34 t42)) fun t43 => gd t40 true (sm Tryz.prog (Instr.buildSlice 22 2 #[(0, (.int .i64 1)), (1, (.int .i64 3))])) fun t44 => gd t40 true (cl (f33 t43 t44)) fun t45 => pk t40 t45 (.bool false) fun t46 => gd t46 true (idv t1_1) fun t48 => gd t46 true (cl (f28 t48)) fun t49 => gd t46 true (eqi .i64 t49 (.int .i64 4)) fun t50 => pk t46 t50 (.bool false) fun t51 => rt t51
def f21 : M := cl (f24 (.int .i64 4)) fun t6 => cl (f23 t6 (.int .i64 2)) fun t7 => smr Tryz.prog (do eqGuard .eql 29 (.tmp 8) (.const (.pointer none)) t7 (.pointer none); binOp .eql 29 t7 (.pointer none)) fun t9 => cnd t9 ( rt (.bool false) ) ( sm Tryz.prog (Instr.buildSlice 22 5 #[(0, (.int .i64 1)), (1, (.int .i64 2)), (2, (.int .i64 1)), (3, (.int .i64 3)), (4, (.int .i64 1))]) fun t10 => jn (fun (j1 : Value → M) => lo (fun _ _ _ => bot) (f21_b2 j1) (fun l => l t7 t10 (.int .i64 0)) ) (f21_j1) )
def f22 (t0 : Value) : M := lnl t0 fun t5 => mnm t5 (.int .i64 300) fun t6 => sll 3 t0 none (some t6) fun t7 => rt t7
def f89_b2 (j1 : Value → M) (self2 : Value → Value → Value → Value → Value → Value → M) (t0_1 t5 t6 t17 t18_1 t19 : Value) : M := lt .i64 t19 t18_1 fun t20 => cnd t20 ( ia 2 t17 t19 fun t21 => ldn 2 t21 fun t22 => al 48 #[(.int .i64 0), (.string ⟨#[]⟩)] fun t8 => stn 2 t8 t22 <| dr <| fa 0 t8 fun t23 => ld t23 fun t24 => lt .i64 t24 (.int .i64 0) fun t25 => idv t25 fun t26 => gd t26 false (fa 0 t8) fun t27 => gd t26 false (ld t27) fun t28 => gd t26 false (idv t0_1) fun t29 => gd t26 false (nc t29) fun t30 => gd t26 false (fa 1 t30) fun t31 => gd t26 false (ld t31) fun t32 => gd t26 false (lnl t32) fun t33 => gd t26 false (ge .i64 t28 t33) fun t34 => pk t26 (.bool true) t34 fun t35 => cnd t35 ( rt (.int .i64 7) ) ( fa 0 t8 fun t37 => ld t37 fun t38 => smr Tryz.prog (Instr.lookup 164 t5 t38 false) fun t39 => ad .i64 t39 (.int .i64 1) fun t40 => smu Tryz.prog (Instr.mapUpdate 164 t5 t38 t40) <| gd t6 false (idv t5) fun t43 => gd t6 false (fa 0 t8) fun t44 => gd t6 false (ld t44) fun t45 => gd t6 false (smr Tryz.prog (Instr.lookup 164 t43 t45 false)) fun t46 => gd t6 false (gt .i64 t46 (.int .i64 1)) fun t47 => pk t6 (.bool true) t47 fun t48 => gd t48 false (fa 1 t8) fun t50 => gd t48 false (ld t50) fun t51 => gd t48 false (lns t51) fun t52 => gd t48 false (nei .i64 t52 (.int .i64 256)) fun t53 => pk t48 (.bool true) t53 fun t54 => ad .i64 t19 (.int .i64 1) fun t55 => self2 t0_1 t5 t54 t17 t18_1 t55 ) ) ( j1 t6 )
def f89_j1 (t6_1 : Value) : M := cnd t6_1 ( rt (.int .i64 1) ) ( rt (.int .i64 0) )
def f89 (t0 t1 : Value) : M := nc t0 fun t10 => fa 2 t10 fun t11 => ld t11 fun t12 => cnd t12 ( rt (.int .i64 13) ) ( lnl t1 fun t14 => gt .i64 t14 (.int .i64 31) fun t15 => cnd t15 ( rt (.int .i64 3) ) ( mm fun t16 => lnl t1 fun t18 => jn (fun (j1 : Value → M) => lo (fun _ _ _ _ _ _ => bot) (f89_b2 j1) (fun l => l t0 t16 (.bool false) t1 t18 (.int .i64 0)) ) (f89_j1) ) )
theorem s89 (t0 t1 : Value) (w : World) (Q : Value → World → Prop) (h : f89 t0 t1 w Q) : Calls Tryz.prog 89 #[t0, t1] w (Rt Q) := by
  refine calls_of (l := [t0, t1]) Tryz.func89 rfl Tryz.ntmps89 (Nat.le_of_ble_eq_true rfl) ?_
  unfold f89 at h
  refine wp_seq ?_
  refine L_region ?_
  refine L_as ?_
  refine L_nil ?_
  refine E_n ?_
  refine wp_seq ?_
  refine wp_seq ?_
  refine L_region ?_
  refine L_mv ?_
  refine L_u (P_nc h) ?_
  intro v w h
  refine L_u (P_fa fo133_2 h) ?_
  intro v w h
  refine L_u (P_ld sc4 h) ?_
  intro v w h
  refine L_nil ?_
  refine E_n ?_
  refine C_cnd h (fun h => ?_) (fun h => ?_)
  · refine wp_seq ?_
    refine L_region ?_
    refine L_as ?_
    refine L_nil ?_
    refine E_n ?_
    refine C_ret ?_
    show bodyPost Tryz.prog Tryz.f89 (Rt Q) .ret _ _
    exact post_tmps (ts := [4]) (.inr rfl) rfl h
  · refine C_skip ?_
    refine E_n ?_
    refine wp_seq ?_
    refine wp_seq ?_
    refine L_region ?_
    refine L_mv ?_
    refine L_u (P_lnl is49 h) ?_
    intro v w h
    refine L_u (P_gt h) ?_
    intro v w h
    refine L_nil ?_
    refine E_n ?_
    refine C_cnd h (fun h => ?_) (fun h => ?_)
    · refine wp_seq ?_
      refine L_region ?_
      refine L_as ?_
      refine L_nil ?_
      refine E_n ?_
      refine C_ret ?_
      show bodyPost Tryz.prog Tryz.f89 (Rt Q) .ret _ _
      exact post_tmps (ts := [4]) (.inr rfl) rfl h
    · refine C_skip ?_
      refine E_n ?_
      refine wp_seq ?_
      refine L_region ?_
      refine L_u (P_mm h) ?_
      intro v w h
      refine L_as ?_
      refine L_nil ?_
      refine E_n ?_
      refine wp_seq ?_
      refine L_region ?_
      refine L_as ?_
      refine L_nil ?_
      refine E_n ?_
      refine wp_seq ?_
      refine wp_seq ?_
      refine L_region ?_
      refine L_mv ?_
      refine L_u (P_lnl is49 h) ?_
      intro v w h
      refine L_mv ?_
      refine L_nil ?_
      refine E_n ?_
      refine C_join (fun (k : Value → M) (ρ : Nat → Value) => k (ρ 6)) h (fun j1 J1 h => ?_) (fun ρ w h => ?_)
      · refine C_blk ?_
        refine C_lo (fun (l : Value → Value → Value → Value → Value → Value → M) (ρ : Nat → Value) => l (ρ 0) (ρ 5) (ρ 6) (ρ 17) (ρ 18) (ρ 19)) h (fun ρ w h => h) (fun nx self2 L2 ρ w h => ?_)
        unfold f89_b2 at h
        refine wp_seq ?_
        refine L_region ?_
        refine L_u (P_lt h) ?_
        intro v w h
        refine L_nil ?_
        refine E_n ?_
        refine wp_seq ?_
        refine C_cnd h (fun h => ?_) (fun h => ?_)
        · refine C_skip ?_
          refine E_n ?_
          refine wp_seq ?_
          refine C_blk ?_
          refine wp_seq ?_
          refine L_region ?_
          refine L_u (P_ia se49 h) ?_
          intro v w h
          refine L_u (P_ldn ag48 h) ?_
          intro v w h
          refine L_u (P_al ze48 rfl h) ?_
          intro v w h
          refine L_u (P_stn ag48 h) ?_
          intro w h
          refine L_nil ?_
          refine E_n ?_
          refine wp_seq ?_
          refine wp_seq ?_
          refine D_region (by decide +kernel) 13 rfl ?_
          replace h := dr_e h
          refine G_p 0 rfl (by decide +kernel) (Y_fa fo48_0 h) ?_
          intro v h
          refine G_r _ 1 rfl (by decide +kernel) (R_ld sc3 h) ?_
          intro v h
          refine G_p 2 rfl (by decide +kernel) (Y_lt h) ?_
          intro v h
          refine G_p 3 rfl (by decide +kernel) (Y_mv h) ?_
          intro v h
          refine G_pg (t := 26) 4 rfl (by decide +kernel) h rfl rfl (fun h => Y_fa fo48_0 h) ?_
          intro v h
          refine G_rg (t := 26) _ 5 rfl (by decide +kernel) h rfl rfl (fun h => R_ld sc3 h) ?_
          intro v h
          refine G_pg (t := 26) 6 rfl (by decide +kernel) h rfl rfl (fun h => Y_mv h) ?_
          intro v h
          refine G_pg (t := 26) 7 rfl (by decide +kernel) h rfl rfl (fun h => Y_nc h) ?_
          intro v h
          refine G_pg (t := 26) 8 rfl (by decide +kernel) h rfl rfl (fun h => Y_fa fo133_1 h) ?_
          intro v h
          refine G_rg (t := 26) _ 9 rfl (by decide +kernel) h rfl rfl (fun h => R_ld sc100 h) ?_
          intro v h
          refine G_pg (t := 26) 10 rfl (by decide +kernel) h rfl rfl (fun h => Y_lnl is100 h) ?_
          intro v h
          refine G_pg (t := 26) 11 rfl (by decide +kernel) h rfl rfl (fun h => Y_ge h) ?_
          intro v h
          refine G_p 12 rfl (by decide +kernel) (Y_pk h) ?_
          intro v h
          refine G_done (by decide +kernel) ?_
          refine E_n ?_
          refine C_cnd h (fun h => ?_) (fun h => ?_)
          · refine wp_seq ?_
            refine L_region ?_
            refine L_as ?_
            refine L_nil ?_
            refine E_n ?_
            refine C_ret ?_
            show bodyPost Tryz.prog Tryz.f89 (Rt Q) .ret _ _
            exact post_tmps (ts := [4]) (.inr rfl) rfl h
          · refine C_skip ?_
            refine E_n ?_
            refine wp_seq ?_
            refine L_region ?_
            refine L_mv ?_
            refine L_u (P_fa fo48_0 h) ?_
            intro v w h
            refine L_u (P_ld sc3 h) ?_
            intro v w h
            refine L_u (P_smr rfl h) ?_
            intro v w h
            refine L_u (P_ad h) ?_
            intro v w h
            refine L_u (P_smu rfl h) ?_
            intro w h
            refine L_nil ?_
            refine E_n ?_
            refine L_region ?_
            refine L_mv ?_
            refine L_mv ?_
            refine L_g (t := 42) h rfl rfl (fun c h => P_mv h c) ?_
            intro v w h
            refine L_g (t := 42) h rfl rfl (fun c h => P_fa fo48_0 h c) ?_
            intro v w h
            refine L_g (t := 42) h rfl rfl (fun c h => P_ld sc3 h c) ?_
            intro v w h
            refine L_g (t := 42) h rfl rfl (fun c h => P_smr rfl h c) ?_
            intro v w h
            refine L_g (t := 42) h rfl rfl (fun c h => P_gt h c) ?_
            intro v w h
            refine L_u (P_pk h) ?_
            intro v w h
            refine L_mv ?_
            refine L_g (t := 49) h rfl rfl (fun c h => P_fa fo48_1 h c) ?_
            intro v w h
            refine L_g (t := 49) h rfl rfl (fun c h => P_ld sc9 h c) ?_
            intro v w h
            refine L_g (t := 49) h rfl rfl (fun c h => P_lns st9 h c) ?_
            intro v w h
            refine L_g (t := 49) h rfl rfl (fun c h => P_nei h c) ?_
            intro v w h
            refine L_u (P_pk h) ?_
            intro v w h
            refine L_as ?_
            refine L_nil ?_
            refine B_n ?_
            refine E_n ?_
            refine L_region ?_
            refine L_u (P_ad h) ?_
            intro v w h
            refine L_mv ?_
            refine L_nil ?_
            refine E_n ?_
            exact L2 _ _ h
        · refine C_exit ?_
          refine E_x ?_
          refine E_x ?_
          refine B_x ?_
          exact J1 _ _ h
      · unfold f89_j1 at h
        refine E_n ?_
        refine wp_seq ?_
        refine wp_seq ?_
        refine L_region ?_
        refine L_mv ?_
        refine L_nil ?_
        refine E_n ?_
        refine C_cnd h (fun h => ?_) (fun h => ?_)
        · refine wp_seq ?_
          refine L_region ?_
          refine L_as ?_
          refine L_nil ?_
          refine E_n ?_
          refine C_ret ?_
          show bodyPost Tryz.prog Tryz.f89 (Rt Q) .ret _ _
          exact post_tmps (ts := [4]) (.inr rfl) rfl h
        · refine C_skip ?_
          refine E_n ?_
          refine wp_seq ?_
          refine L_region ?_
          refine L_as ?_
          refine L_nil ?_
          refine E_n ?_
          refine C_ret ?_
          show bodyPost Tryz.prog Tryz.f89 (Rt Q) .ret _ _
          exact post_tmps (ts := [4]) (.inr rfl) rfl h

def f116 (t0 t1 : Value) : M := ld t1 fun t4 => cl (f111 t4 t0) fun t6 => rt t6
theorem s116 (t0 t1 : Value) (w : World) (Q : Value → World → Prop) (h : f116 t0 t1 w Q) : Calls Tryz.prog 116 #[t0, t1] w (Rt Q) := by
  refine calls_of (l := [t0, t1]) Tryz.func116 rfl Tryz.ntmps116 (Nat.le_of_ble_eq_true rfl) ?_
  unfold f116 at h
  refine wp_seq ?_
  refine L_region ?_
  refine L_as ?_
  refine L_nil ?_
  refine E_n ?_
  refine wp_seq ?_
  refine L_region ?_
  refine L_u (P_ld sc3 h) ?_
  intro v w h
  refine L_mv ?_
  refine L_u (N_cl Tryz.func111 rfl nn111 (fun w Q h => s111 _ _ w Q h) h) ?_
  intro v w h
  refine L_as ?_
  refine L_nil ?_
  refine E_n ?_
  refine C_ret ?_
  show bodyPost Tryz.prog Tryz.f116 (Rt Q) .ret _ _
  exact post_tmps (ts := [3]) (.inr rfl) rfl h

def f117 (t0 t1 : Value) : M := fa 0 t1 fun t4 => ld t4 fun t5 => cl (f81 t5 t0) fun t7 => rt t7
theorem s117 (t0 t1 : Value) (w : World) (Q : Value → World → Prop) (h : f117 t0 t1 w Q) : Calls Tryz.prog 117 #[t0, t1] w (Rt Q) := by
  refine calls_of (l := [t0, t1]) Tryz.func117 rfl Tryz.ntmps117 (Nat.le_of_ble_eq_true rfl) ?_
  unfold f117 at h
  refine wp_seq ?_
  refine L_region ?_
  refine L_as ?_
  refine L_nil ?_
  refine E_n ?_
  refine wp_seq ?_
  refine L_region ?_
  refine L_u (P_fa fo48_0 h) ?_
  intro v w h
  refine L_u (P_ld sc3 h) ?_
  intro v w h
  refine L_mv ?_
  refine L_u (N_cl Tryz.func81 rfl nn81 (fun w Q h => s81 _ _ w Q h) h) ?_
  intro v w h
  refine L_as ?_
  refine L_nil ?_
  refine E_n ?_
  refine C_ret ?_
  show bodyPost Tryz.prog Tryz.f117 (Rt Q) .ret _ _
  exact post_tmps (ts := [3]) (.inr rfl) rfl h

def f147_b2 (j1 : Value → M) (self2 : Value → Value → Value → M) (t0_1 t1_1 t7 : Value) : M := ge .i64 t7 (.int .i64 0) fun t12 => cnd t12 ( mu .i64 (.int .i64 8) t7 fun t18 => shr .u64 .i64 t1_1 t18 fun t19 => cv .u8 t19 fun t20 => sm Tryz.prog (Instr.buildSlice 42 1 #[(0, t20)]) fun t21 => sm Tryz.prog (Builtin.append_ #[42, 42] 42 #[t0_1, t21]) fun t22 => su .i64 t7 (.int .i64 1) fun t14 => self2 t22 t1_1 t14 ) ( j1 t0_1 )
def f147_j1 (t0_2 : Value) : M := rt t0_2
def f147 (t0 t1 t2 : Value) : M := cl (f163 t2) fun t9 => su .i64 t9 (.int .i64 1) fun t10 => jn (fun (j1 : Value → M) => lo (fun _ _ _ => bot) (f147_b2 j1) (fun l => l t0 t1 t10) ) (f147_j1)
theorem s147 (t0 t1 t2 : Value) (w : World) (Q : Value → World → Prop) (h : f147 t0 t1 t2 w Q) : Calls Tryz.prog 147 #[t0, t1, t2] w (Rt Q) := by
  refine calls_of (l := [t0, t1, t2]) Tryz.func147 rfl Tryz.ntmps147 (Nat.le_of_ble_eq_true rfl) ?_
  unfold f147 at h
  refine wp_seq ?_
  refine L_region ?_
  refine L_as ?_
  refine L_nil ?_
  refine E_n ?_
  refine wp_seq ?_
  refine wp_seq ?_
  refine L_region ?_
  refine L_mv ?_
  refine L_u (N_cl Tryz.func163 rfl nn163 (fun w Q h => s163 _ w Q h) h) ?_
  intro v w h
  refine L_u (P_su h) ?_
  intro v w h
  refine L_as ?_
  refine L_nil ?_
  refine E_n ?_
  refine C_join (fun (k : Value → M) (ρ : Nat → Value) => k (ρ 0)) h (fun j1 J1 h => ?_) (fun ρ w h => ?_)
  · refine C_blk ?_
    refine C_lo (fun (l : Value → Value → Value → M) (ρ : Nat → Value) => l (ρ 0) (ρ 1) (ρ 7)) h (fun ρ w h => h) (fun nx self2 L2 ρ w h => ?_)
    unfold f147_b2 at h
    refine wp_seq ?_
    refine wp_seq ?_
    refine L_region ?_
    refine L_mv ?_
    refine L_u (P_ge h) ?_
    intro v w h
    refine L_nil ?_
    refine E_n ?_
    refine C_cnd h (fun h => ?_) (fun h => ?_)
    · refine C_skip ?_
      refine E_n ?_
      refine wp_seq ?_
      refine C_blk ?_
      refine L_region ?_
      refine L_mv ?_
      refine L_mv ?_
      refine L_mv ?_
      refine L_u (P_mu h) ?_
      intro v w h
      refine L_u (P_shr h) ?_
      intro v w h
      refine L_u (P_cv ai185 in5 h) ?_
      intro v w h
      refine L_u (N_bsl h) ?_
      intro v w h
      refine L_u (N_bi rfl h) ?_
      intro v w h
      refine L_as ?_
      refine L_nil ?_
      refine B_n ?_
      refine E_n ?_
      refine L_region ?_
      refine L_mv ?_
      refine L_u (P_su h) ?_
      intro v w h
      refine L_as ?_
      refine L_nil ?_
      refine E_n ?_
      exact L2 _ _ h
    · refine C_exit ?_
      refine E_x ?_
      refine E_x ?_
      refine B_x ?_
      exact J1 _ _ h
  · unfold f147_j1 at h
    refine E_n ?_
    refine wp_seq ?_
    refine L_region ?_
    refine L_mv ?_
    refine L_as ?_
    refine L_nil ?_
    refine E_n ?_
    refine C_ret ?_
    show bodyPost Tryz.prog Tryz.f147 (Rt Q) .ret _ _
    exact post_tmps (ts := [6]) (.inr rfl) rfl h

def f118_b2 (j1 : Value → M) (self2 : Value → Value → Value → Value → M) (t4 t19 t20_1 t21 : Value) : M := lt .i64 t21 t20_1 fun t22 => cnd t22 ( ia 1 t19 t21 fun t23 => ld t23 fun t24 => cv .u64 t24 fun t27 => cl (f147 t4 t27 (.int .i64 2)) fun t28 => ad .i64 t21 (.int .i64 1) fun t29 => self2 t28 t19 t20_1 t29 ) ( j1 t4 )
def f118_j1 (t4_1 : Value) : M := cl (f148 t4_1) fun t31 => rt (.tuple #[t31, (.int .i64 0)])
def f118 (t0 : Value) : M := lnl t0 fun t9 => gt .i64 t9 (.int .i64 31) fun t10 => cnd t10 ( rt (.tuple #[(.string ⟨#[]⟩), (.int .i64 3)]) ) ( cl (f142 t0) fun t13 => nt t13 fun t14 => cnd t14 ( rt (.tuple #[(.string ⟨#[]⟩), (.int .i64 1)]) ) ( lnl t0 fun t16 => cv .u8 t16 fun t17 => sm Tryz.prog (Instr.buildSlice 42 1 #[(0, t17)]) fun t18 => lnl t0 fun t20 => jn (fun (j1 : Value → M) => lo (fun _ _ _ _ => bot) (f118_b2 j1) (fun l => l t18 t0 t20 (.int .i64 0)) ) (f118_j1) ) )
theorem s118 (t0 : Value) (w : World) (Q : Value → World → Prop) (h : f118 t0 w Q) : Calls Tryz.prog 118 #[t0] w (Rt Q) := by
  refine calls_of (l := [t0]) Tryz.func118 rfl Tryz.ntmps118 (Nat.le_of_ble_eq_true rfl) ?_
  unfold f118 at h
  refine wp_seq ?_
  refine L_region ?_
  refine L_as ?_
  refine L_as ?_
  refine L_nil ?_
  refine E_n ?_
  refine wp_seq ?_
  refine C_blk ?_
  refine wp_seq ?_
  refine L_region ?_
  refine L_mv ?_
  refine L_u (P_lnl is22 h) ?_
  intro v w h
  refine L_u (P_gt h) ?_
  intro v w h
  refine L_as ?_
  refine L_nil ?_
  refine E_n ?_
  refine C_cnd h (fun h => ?_) (fun h => ?_)
  · refine wp_seq ?_
    refine L_region ?_
    refine L_as ?_
    refine L_as ?_
    refine L_nil ?_
    refine E_n ?_
    refine C_ret ?_
    show bodyPost Tryz.prog Tryz.f118 (Rt Q) .ret _ _
    exact post_tmps (ts := [2, 3]) (.inr rfl) rfl h
  · refine wp_seq ?_
    refine L_region ?_
    refine L_mv ?_
    refine L_u (N_cl Tryz.func142 rfl nn142 (fun w Q h => s142 _ w Q h) h) ?_
    intro v w h
    refine L_u (P_nt h) ?_
    intro v w h
    refine L_as ?_
    refine L_nil ?_
    refine E_n ?_
    refine C_cnd h (fun h => ?_) (fun h => ?_)
    · refine wp_seq ?_
      refine L_region ?_
      refine L_as ?_
      refine L_as ?_
      refine L_nil ?_
      refine E_n ?_
      refine C_ret ?_
      show bodyPost Tryz.prog Tryz.f118 (Rt Q) .ret _ _
      exact post_tmps (ts := [2, 3]) (.inr rfl) rfl h
    · refine C_skip ?_
      refine B_n ?_
      refine E_n ?_
      refine wp_seq ?_
      refine L_region ?_
      refine L_mv ?_
      refine L_u (P_lnl is22 h) ?_
      intro v w h
      refine L_u (P_cv ai3 in5 h) ?_
      intro v w h
      refine L_u (N_bsl h) ?_
      intro v w h
      refine L_as ?_
      refine L_nil ?_
      refine E_n ?_
      refine wp_seq ?_
      refine wp_seq ?_
      refine L_region ?_
      refine L_mv ?_
      refine L_u (P_lnl is22 h) ?_
      intro v w h
      refine L_mv ?_
      refine L_nil ?_
      refine E_n ?_
      refine C_join (fun (k : Value → M) (ρ : Nat → Value) => k (ρ 4)) h (fun j1 J1 h => ?_) (fun ρ w h => ?_)
      · refine C_blk ?_
        refine C_lo (fun (l : Value → Value → Value → Value → M) (ρ : Nat → Value) => l (ρ 4) (ρ 19) (ρ 20) (ρ 21)) h (fun ρ w h => h) (fun nx self2 L2 ρ w h => ?_)
        unfold f118_b2 at h
        refine wp_seq ?_
        refine L_region ?_
        refine L_u (P_lt h) ?_
        intro v w h
        refine L_nil ?_
        refine E_n ?_
        refine wp_seq ?_
        refine C_cnd h (fun h => ?_) (fun h => ?_)
        · refine C_skip ?_
          refine E_n ?_
          refine wp_seq ?_
          refine C_blk ?_
          refine wp_seq ?_
          refine L_region ?_
          refine L_u (P_ia se22 h) ?_
          intro v w h
          refine L_u (P_ld sc3 h) ?_
          intro v w h
          refine L_as ?_
          refine L_nil ?_
          refine E_n ?_
          refine L_region ?_
          refine L_mv ?_
          refine L_mv ?_
          refine L_u (P_cv ai3 in185 h) ?_
          intro v w h
          refine L_u (N_cl Tryz.func147 rfl nn147 (fun w Q h => s147 _ _ _ w Q h) h) ?_
          intro v w h
          refine L_as ?_
          refine L_nil ?_
          refine B_n ?_
          refine E_n ?_
          refine L_region ?_
          refine L_u (P_ad h) ?_
          intro v w h
          refine L_mv ?_
          refine L_nil ?_
          refine E_n ?_
          exact L2 _ _ h
        · refine C_exit ?_
          refine E_x ?_
          refine E_x ?_
          refine B_x ?_
          exact J1 _ _ h
      · unfold f118_j1 at h
        refine E_n ?_
        refine wp_seq ?_
        refine L_region ?_
        refine L_mv ?_
        refine L_u (N_cl Tryz.func148 rfl nn148 (fun w Q h => s148 _ w Q h) h) ?_
        intro v w h
        refine L_as ?_
        refine L_as ?_
        refine L_nil ?_
        refine E_n ?_
        refine C_ret ?_
        show bodyPost Tryz.prog Tryz.f118 (Rt Q) .ret _ _
        exact post_tmps (ts := [2, 3]) (.inr rfl) rfl h

def f91_b2 (j1 : Value → Value → Value → Value → M) (self2 : Value → Value → Value → Value → Value → Value → Value → M) (t0_1 t5 t6 t7 t13 t14_1 t15 : Value) : M := lt .i64 t15 t14_1 fun t16 => cnd t16 ( ia 2 t13 t15 fun t18 => ldn 2 t18 fun t19 => al 3 #[(.int .i64 0)] fun t8 => al 48 #[(.int .i64 0), (.string ⟨#[]⟩)] fun t9 => st t8 t15 <| stn 2 t9 t19 <| fa 0 t9 fun t21 => ld t21 fun t22 => sm Tryz.prog (Instr.buildSlice 22 1 #[(0, t22)]) fun t23 => sm Tryz.prog (Builtin.append_ #[22, 22] 22 #[t5, t23]) fun t24 => dr <| idv t6 fun t25 => idv t0_1 fun t26 => idv (.func (.func 116) #[] #[t8]) fun t27 => idv t0_1 fun t28 => nc t28 fun t29 => fa 1 t29 fun t30 => ld t30 fun t31 => fa 0 t9 fun t32 => ld t32 fun t33 => ia 1 t31 t33 fun t34 => ld t34 fun t35 => cl (f112 t26 t27 t35) fun t36 => sm Tryz.prog (Builtin.append_ #[138, 138] 138 #[t25, t36]) fun t37 => idv t37 fun t6_1 => idv (.func (.func 117) #[] #[t9]) fun t40 => fa 1 t9 fun t41 => ld t41 fun t42 => cl (f112 t0_1 t40 t42) fun t43 => sm Tryz.prog (Builtin.append_ #[138, 138] 138 #[t7, t43]) fun t44 => ad .i64 t15 (.int .i64 1) fun t45 => self2 t0_1 t24 t6_1 t44 t13 t14_1 t45 ) ( j1 t0_1 t5 t6 t7 )
def f91_j3 (t0_3 t12_2 : Value) : M := cl (f115 t0_3 (.bool false)) fun t80 => sm Tryz.prog (Builtin.append_ #[138, 138] 138 #[t12_2, t80]) fun t81 => rt t81
def f91_j1 (t0_2 t5_1 t6_2 t7_1 : Value) : M := cl (f118 t5_1) fun t48 => ex 0 t48 fun t49 => ex 1 t48 fun t50 => cl (f119 t0_2 (.int .i64 1) t49) fun t53 => sm Tryz.prog (Instr.buildSlice 138 1 #[(0, t53)]) fun t54 => sm Tryz.prog (Builtin.append_ #[138, 138] 138 #[t54, t6_2]) fun t56 => nc t0_2 fun t59 => fa 0 t59 fun t60 => ld t60 fun t61 => idv (.func (.func 114) #[t61] #[]) fun t62 => sm Tryz.prog (Instr.buildSlice 138 1 #[(0, t62)]) fun t63 => sm Tryz.prog (Builtin.append_ #[138, 138] 138 #[t56, t63]) fun t64 => cl (f115 t0_2 (.bool true)) fun t66 => sm Tryz.prog (Builtin.append_ #[138, 138] 138 #[t64, t66]) fun t67 => jn (fun (j3 : Value → Value → M) => dr <| idv t67 fun t68 => idv t7_1 fun t69 => idv t0_2 fun t71 => nc t71 fun t72 => fa 0 t72 fun t73 => ld t73 fun t74 => idv (.func (.func 114) #[t74] #[]) fun t75 => amb ( sm Tryz.prog (Builtin.append_ #[138, 138] 138 #[t68, t69]) fun t70 => kp (Kld t73 t74) <| sm Tryz.prog (Instr.buildSlice 138 1 #[(0, t75)]) fun t76_1 => sm Tryz.prog (Builtin.append_ #[138, 138] 138 #[t70, t76_1]) fun t77 => idv t77 fun t12 => j3 t0_2 t12 ) ( sm Tryz.prog (Instr.buildSlice 138 1 #[(0, t75)]) fun t76 => sm Tryz.prog (Builtin.append_ #[138, 138] 138 #[t68, t69]) fun t70_1 => kp (Kld t73 t74) <| sm Tryz.prog (Builtin.append_ #[138, 138] 138 #[t70_1, t76]) fun t77_1 => idv t77_1 fun t12_1 => j3 t0_2 t12_1 ) ) (f91_j3)
def f91 (t0 t1 : Value) : M := lnl t1 fun t14 => jn (fun (j1 : Value → Value → Value → Value → M) => lo (fun _ _ _ _ _ _ _ => bot) (f91_b2 j1) (fun l => l t0 (.slice none 0 0) (.slice none 0 0) (.slice none 0 0) t1 t14 (.int .i64 0)) ) (f91_j1)
theorem s91 (t0 t1 : Value) (w : World) (Q : Value → World → Prop) (h : f91 t0 t1 w Q) : Calls Tryz.prog 91 #[t0, t1] w (Rt Q) := by
  refine calls_of (l := [t0, t1]) Tryz.func91 rfl Tryz.ntmps91 (Nat.le_of_ble_eq_true rfl) ?_
  unfold f91 at h
  refine wp_seq ?_
  refine L_region ?_
  refine L_as ?_
  refine L_nil ?_
  refine E_n ?_
  refine wp_seq ?_
  refine L_region ?_
  refine L_as ?_
  refine L_nil ?_
  refine E_n ?_
  refine wp_seq ?_
  refine L_region ?_
  refine L_as ?_
  refine L_as ?_
  refine L_nil ?_
  refine E_n ?_
  refine wp_seq ?_
  refine wp_seq ?_
  refine L_region ?_
  refine L_mv ?_
  refine L_u (P_lnl is49 h) ?_
  intro v w h
  refine L_mv ?_
  refine L_nil ?_
  refine E_n ?_
  refine C_join (fun (k : Value → Value → Value → Value → M) (ρ : Nat → Value) => k (ρ 0) (ρ 5) (ρ 6) (ρ 7)) h (fun j1 J1 h => ?_) (fun ρ w h => ?_)
  · refine C_blk ?_
    refine C_lo (fun (l : Value → Value → Value → Value → Value → Value → Value → M) (ρ : Nat → Value) => l (ρ 0) (ρ 5) (ρ 6) (ρ 7) (ρ 13) (ρ 14) (ρ 15)) h (fun ρ w h => h) (fun nx self2 L2 ρ w h => ?_)
    unfold f91_b2 at h
    refine wp_seq ?_
    refine L_region ?_
    refine L_u (P_lt h) ?_
    intro v w h
    refine L_nil ?_
    refine E_n ?_
    refine wp_seq ?_
    refine C_cnd h (fun h => ?_) (fun h => ?_)
    · refine C_skip ?_
      refine E_n ?_
      refine wp_seq ?_
      refine C_blk ?_
      refine wp_seq ?_
      refine L_region ?_
      refine L_mv ?_
      refine L_u (P_ia se49 h) ?_
      intro v w h
      refine L_u (P_ldn ag48 h) ?_
      intro v w h
      refine L_u (P_al ze3 rfl h) ?_
      intro v w h
      refine L_u (P_al ze48 rfl h) ?_
      intro v w h
      refine L_u (P_st on3 h) ?_
      intro w h
      refine L_u (P_stn ag48 h) ?_
      intro w h
      refine L_nil ?_
      refine E_n ?_
      refine wp_seq ?_
      refine L_region ?_
      refine L_mv ?_
      refine L_u (P_fa fo48_0 h) ?_
      intro v w h
      refine L_u (P_ld sc3 h) ?_
      intro v w h
      refine L_u (N_bsl h) ?_
      intro v w h
      refine L_u (N_bi rfl h) ?_
      intro v w h
      refine L_as ?_
      refine L_nil ?_
      refine E_n ?_
      refine wp_seq ?_
      refine D_region (by decide +kernel) 14 rfl ?_
      replace h := dr_e h
      refine G_p 0 rfl (by decide +kernel) (Y_mv h) ?_
      intro v h
      refine G_p 1 rfl (by decide +kernel) (Y_mv h) ?_
      intro v h
      refine G_p 2 rfl (by decide +kernel) (Y_nmf h) ?_
      intro v h
      refine G_p 3 rfl (by decide +kernel) (Y_mv h) ?_
      intro v h
      refine G_p 4 rfl (by decide +kernel) (Y_nc h) ?_
      intro v h
      refine G_p 5 rfl (by decide +kernel) (Y_fa fo133_1 h) ?_
      intro v h
      refine G_r _ 6 rfl (by decide +kernel) (R_ld sc100 h) ?_
      intro v h
      refine G_p 7 rfl (by decide +kernel) (Y_fa fo48_0 h) ?_
      intro v h
      refine G_r _ 8 rfl (by decide +kernel) (R_ld sc3 h) ?_
      intro v h
      refine G_p 9 rfl (by decide +kernel) (Y_ia se100 h) ?_
      intro v h
      refine G_r _ 10 rfl (by decide +kernel) (R_ld sc9 h) ?_
      intro v h
      refine G_e 11 rfl (by decide +kernel) (N_cl Tryz.func112 rfl nn112 (fun w Q h => s112 _ _ _ w Q h) h ?_)
      intro v w h
      refine ⟨keepF_dep [10] (by decide +kernel) rfl (keepF_dep [10, 9, 8] (by decide +kernel) rfl (keepF_dep [10, 9, 6] (by decide +kernel) rfl keepF_nil)), ?_⟩
      refine G_e 12 rfl (by decide +kernel) (N_bi rfl h ?_)
      intro v w h
      refine ⟨keepF_dep [11, 10] (by decide +kernel) rfl (keepF_dep [11, 10, 9, 8] (by decide +kernel) rfl (keepF_dep [11, 10, 9, 6] (by decide +kernel) rfl keepF_nil)), ?_⟩
      refine G_p 13 rfl (by decide +kernel) (Y_as h) ?_
      intro v h
      refine G_done (by decide +kernel) ?_
      refine E_n ?_
      refine L_region ?_
      refine L_mv ?_
      refine L_mv ?_
      refine L_u (N_mf h) ?_
      intro v w h
      refine L_u (P_fa fo48_1 h) ?_
      intro v w h
      refine L_u (P_ld sc9 h) ?_
      intro v w h
      refine L_u (N_cl Tryz.func112 rfl nn112 (fun w Q h => s112 _ _ _ w Q h) h) ?_
      intro v w h
      refine L_u (N_bi rfl h) ?_
      intro v w h
      refine L_as ?_
      refine L_nil ?_
      refine B_n ?_
      refine E_n ?_
      refine L_region ?_
      refine L_u (P_ad h) ?_
      intro v w h
      refine L_mv ?_
      refine L_nil ?_
      refine E_n ?_
      exact L2 _ _ h
    · refine C_exit ?_
      refine E_x ?_
      refine E_x ?_
      refine B_x ?_
      exact J1 _ _ h
  · unfold f91_j1 at h
    refine E_n ?_
    refine wp_seq ?_
    refine L_region ?_
    refine L_mv ?_
    refine L_u (N_cl Tryz.func118 rfl nn118 (fun w Q h => s118 _ w Q h) h) ?_
    intro v w h
    refine L_mv ?_
    refine L_u (P_ex h) ?_
    intro v w h
    refine L_u (P_ex h) ?_
    intro v w h
    refine L_as ?_
    refine L_as ?_
    refine L_nil ?_
    refine E_n ?_
    refine wp_seq ?_
    refine L_region ?_
    refine L_mv ?_
    refine L_mv ?_
    refine L_u (N_cl Tryz.func119 rfl nn119 (fun w Q h => s119 _ _ _ w Q h) h) ?_
    intro v w h
    refine L_u (N_bsl h) ?_
    intro v w h
    refine L_mv ?_
    refine L_u (N_bi rfl h) ?_
    intro v w h
    refine L_as ?_
    refine L_nil ?_
    refine E_n ?_
    refine wp_seq ?_
    refine L_region ?_
    refine L_mv ?_
    refine L_mv ?_
    refine L_u (P_nc h) ?_
    intro v w h
    refine L_u (P_fa fo133_0 h) ?_
    intro v w h
    refine L_u (P_ld sc63 h) ?_
    intro v w h
    refine L_u (N_mf h) ?_
    intro v w h
    refine L_u (N_bsl h) ?_
    intro v w h
    refine L_u (N_bi rfl h) ?_
    intro v w h
    refine L_mv ?_
    refine L_u (N_cl Tryz.func115 rfl nn115 (fun w Q h => s115 _ _ w Q h) h) ?_
    intro v w h
    refine L_u (N_bi rfl h) ?_
    intro v w h
    refine L_as ?_
    refine L_nil ?_
    refine E_n ?_
    refine wp_seq ?_
    refine C_join (fun (k : Value → Value → M) (ρ : Nat → Value) => k (ρ 0) (ρ 12)) h (fun j3 J3 h => ?_) (fun ρ w h => ?_)
    · refine D_region (by decide +kernel) 11 rfl ?_
      replace h := dr_e h
      refine G_p 0 rfl (by decide +kernel) (Y_mv h) ?_
      intro v h
      refine G_p 1 rfl (by decide +kernel) (Y_mv h) ?_
      intro v h
      refine G_p 3 rfl (by decide +kernel) (Y_mv h) ?_
      intro v h
      refine G_p 4 rfl (by decide +kernel) (Y_nc h) ?_
      intro v h
      refine G_p 5 rfl (by decide +kernel) (Y_fa fo133_0 h) ?_
      intro v h
      refine G_r _ 6 rfl (by decide +kernel) (R_ld sc63 h) ?_
      intro v h
      refine G_p 7 rfl (by decide +kernel) (Y_nmf h) ?_
      intro v h
      refine G_two (i := 2) (j := 8) (by decide +kernel) (G_op rfl (N_bi rfl (amb_1 h) ?_)) (G_op rfl (N_bsl (amb_2 h) ?_))
      · intro v w h
        refine ⟨keepF_cons (kp_1 h) keepF_nil, ?_⟩
        replace h := (kp_2 h)
        refine G_e 8 rfl (by decide +kernel) (N_bsl h ?_)
        intro v w h
        refine ⟨keepF_dep [7, 6] (by decide +kernel) rfl keepF_nil, ?_⟩
        refine G_e 9 rfl (by decide +kernel) (N_bi rfl h ?_)
        intro v w h
        refine ⟨keepF_dep [8, 7, 6] (by decide +kernel) rfl keepF_nil, ?_⟩
        refine G_p 10 rfl (by decide +kernel) (Y_as h) ?_
        intro v h
        refine G_done (by decide +kernel) ?_
        exact J3 _ _ h
      · intro v w h
        refine ⟨keepF_dep [7, 6] (by decide +kernel) rfl keepF_nil, ?_⟩
        refine G_e 2 rfl (by decide +kernel) (N_bi rfl h ?_)
        intro v w h
        refine ⟨keepF_cons (kp_1 h) keepF_nil, ?_⟩
        replace h := (kp_2 h)
        refine G_e 9 rfl (by decide +kernel) (N_bi rfl h ?_)
        intro v w h
        refine ⟨keepF_dep [8, 7, 6] (by decide +kernel) rfl keepF_nil, ?_⟩
        refine G_p 10 rfl (by decide +kernel) (Y_as h) ?_
        intro v h
        refine G_done (by decide +kernel) ?_
        exact J3 _ _ h
    · unfold f91_j3 at h
      refine E_n ?_
      refine wp_seq ?_
      refine L_region ?_
      refine L_mv ?_
      refine L_mv ?_
      refine L_u (N_cl Tryz.func115 rfl nn115 (fun w Q h => s115 _ _ w Q h) h) ?_
      intro v w h
      refine L_u (N_bi rfl h) ?_
      intro v w h
      refine L_as ?_
      refine L_nil ?_
      refine E_n ?_
      refine C_ret ?_
      show bodyPost Tryz.prog Tryz.f91 (Rt Q) .ret _ _
      exact post_tmps (ts := [4]) (.inr rfl) rfl h

def f44_b2 (j1 : Value → M) (self2 : Value → Value → Value → Value → M) (t0_1 t32 t33_1 t34 : Value) : M := lt .i64 t34 t33_1 fun t35 => cnd t35 ( ia 2 t32 t34 fun t36 => ldn 2 t36 fun t37 => al 48 #[(.int .i64 0), (.string ⟨#[]⟩)] fun t8 => stn 2 t8 t37 <| dr <| idv t0_1 fun t38 => nc t38 fun t39 => fa 1 t39 fun t40 => ld t40 fun t41 => fa 0 t8 fun t42 => ld t42 fun t43 => fa 1 t8 fun t44 => ld t44 fun t45 => ia 1 t41 t43 fun t46 => st t46 t45 <| ad .i64 t34 (.int .i64 1) fun t47 => self2 t0_1 t32 t33_1 t47 ) ( j1 t0_1 )
def f44_j1 (t0_2 : Value) : M := nc t0_2 fun t49 => fa 3 t49 fun t50 => ld t50 fun t51 => ad .i64 t51 (.int .i64 1) fun t52 => nc t0_2 fun t53 => fa 3 t53 fun t54 => st t54 t52 <| rt (.int .i64 0)
def f44 (t0 t1 : Value) : M := smr Tryz.prog (do eqGuard .eql 40 (.tmp 9) (.const (.pointer none)) t0 (.pointer none); binOp .eql 40 t0 (.pointer none)) fun t10 => cnd t10 ( rt (.int .i64 1) ) ( cl (f89 t0 t1) fun t13 => nei .i64 t13 (.int .i64 0) fun t15 => gd t15 false (idv t1) fun t17 => gd t15 false (lnl t17) fun t18 => gd t15 false (eqi .i64 t18 (.int .i64 0)) fun t19 => pk t15 (.bool true) t19 fun t20 => cnd t20 ( rt t13 ) ( cl (f91 t0 t1) fun t24 => cl (f90 t24) fun t25 => nei .i64 t25 (.int .i64 0) fun t27 => cnd t27 ( nc t0 fun t29 => fa 2 t29 fun t30 => st t30 (.bool true) <| rt t25 ) ( lnl t1 fun t33 => jn (fun (j1 : Value → M) => lo (fun _ _ _ _ => bot) (f44_b2 j1) (fun l => l t0 t1 t33 (.int .i64 0)) ) (f44_j1) ) ) )
theorem s44 (t0 t1 : Value) (w : World) (Q : Value → World → Prop) (h : f44 t0 t1 w Q) : Calls Tryz.prog 44 #[t0, t1] w (Rt Q) := by
  refine calls_of (l := [t0, t1]) Tryz.func44 rfl Tryz.ntmps44 (Nat.le_of_ble_eq_true rfl) ?_
  unfold f44 at h
  refine wp_seq ?_
  refine L_region ?_
  refine L_as ?_
  refine L_nil ?_
  refine E_n ?_
  refine wp_seq ?_
  refine wp_seq ?_
  refine L_region ?_
  refine L_mv ?_
  refine L_u (P_smr rfl h) ?_
  intro v w h
  refine L_nil ?_
  refine E_n ?_
  refine C_cnd h (fun h => ?_) (fun h => ?_)
  · refine wp_seq ?_
    refine L_region ?_
    refine L_as ?_
    refine L_nil ?_
    refine E_n ?_
    refine C_ret ?_
    show bodyPost Tryz.prog Tryz.f44 (Rt Q) .ret _ _
    exact post_tmps (ts := [4]) (.inr rfl) rfl h
  · refine C_skip ?_
    refine E_n ?_
    refine wp_seq ?_
    refine wp_seq ?_
    refine L_region ?_
    refine L_mv ?_
    refine L_mv ?_
    refine L_u (N_cl Tryz.func89 rfl nn89 (fun w Q h => s89 _ _ w Q h) h) ?_
    intro v w h
    refine L_as ?_
    refine L_nil ?_
    refine E_n ?_
    refine wp_seq ?_
    refine L_region ?_
    refine L_mv ?_
    refine L_u (P_nei h) ?_
    intro v w h
    refine L_mv ?_
    refine L_g (t := 16) h rfl rfl (fun c h => P_mv h c) ?_
    intro v w h
    refine L_g (t := 16) h rfl rfl (fun c h => P_lnl is49 h c) ?_
    intro v w h
    refine L_g (t := 16) h rfl rfl (fun c h => P_eqi h c) ?_
    intro v w h
    refine L_u (P_pk h) ?_
    intro v w h
    refine L_nil ?_
    refine E_n ?_
    refine C_cnd h (fun h => ?_) (fun h => ?_)
    · refine wp_seq ?_
      refine L_region ?_
      refine L_mv ?_
      refine L_as ?_
      refine L_nil ?_
      refine E_n ?_
      refine C_ret ?_
      show bodyPost Tryz.prog Tryz.f44 (Rt Q) .ret _ _
      exact post_tmps (ts := [4]) (.inr rfl) rfl h
    · refine C_skip ?_
      refine E_n ?_
      refine wp_seq ?_
      refine wp_seq ?_
      refine L_region ?_
      refine L_mv ?_
      refine L_mv ?_
      refine L_u (N_cl Tryz.func91 rfl nn91 (fun w Q h => s91 _ _ w Q h) h) ?_
      intro v w h
      refine L_u (N_cl Tryz.func90 rfl nn90 (fun w Q h => s90 _ w Q h) h) ?_
      intro v w h
      refine L_as ?_
      refine L_nil ?_
      refine E_n ?_
      refine wp_seq ?_
      refine L_region ?_
      refine L_mv ?_
      refine L_u (P_nei h) ?_
      intro v w h
      refine L_nil ?_
      refine E_n ?_
      refine C_cnd h (fun h => ?_) (fun h => ?_)
      · refine wp_seq ?_
        refine L_region ?_
        refine L_mv ?_
        refine L_u (P_nc h) ?_
        intro v w h
        refine L_u (P_fa fo133_2 h) ?_
        intro v w h
        refine L_u (P_st on4 h) ?_
        intro w h
        refine L_nil ?_
        refine E_n ?_
        refine wp_seq ?_
        refine L_region ?_
        refine L_mv ?_
        refine L_as ?_
        refine L_nil ?_
        refine E_n ?_
        refine C_ret ?_
        show bodyPost Tryz.prog Tryz.f44 (Rt Q) .ret _ _
        exact post_tmps (ts := [4]) (.inr rfl) rfl h
      · refine C_skip ?_
        refine E_n ?_
        refine wp_seq ?_
        refine wp_seq ?_
        refine L_region ?_
        refine L_mv ?_
        refine L_u (P_lnl is49 h) ?_
        intro v w h
        refine L_mv ?_
        refine L_nil ?_
        refine E_n ?_
        refine C_join (fun (k : Value → M) (ρ : Nat → Value) => k (ρ 0)) h (fun j1 J1 h => ?_) (fun ρ w h => ?_)
        · refine C_blk ?_
          refine C_lo (fun (l : Value → Value → Value → Value → M) (ρ : Nat → Value) => l (ρ 0) (ρ 32) (ρ 33) (ρ 34)) h (fun ρ w h => h) (fun nx self2 L2 ρ w h => ?_)
          unfold f44_b2 at h
          refine wp_seq ?_
          refine L_region ?_
          refine L_u (P_lt h) ?_
          intro v w h
          refine L_nil ?_
          refine E_n ?_
          refine wp_seq ?_
          refine C_cnd h (fun h => ?_) (fun h => ?_)
          · refine C_skip ?_
            refine E_n ?_
            refine wp_seq ?_
            refine C_blk ?_
            refine wp_seq ?_
            refine L_region ?_
            refine L_u (P_ia se49 h) ?_
            intro v w h
            refine L_u (P_ldn ag48 h) ?_
            intro v w h
            refine L_u (P_al ze48 rfl h) ?_
            intro v w h
            refine L_u (P_stn ag48 h) ?_
            intro w h
            refine L_nil ?_
            refine E_n ?_
            refine D_region (by decide +kernel) 10 rfl ?_
            replace h := dr_e h
            refine G_p 0 rfl (by decide +kernel) (Y_mv h) ?_
            intro v h
            refine G_p 1 rfl (by decide +kernel) (Y_nc h) ?_
            intro v h
            refine G_p 2 rfl (by decide +kernel) (Y_fa fo133_1 h) ?_
            intro v h
            refine G_r _ 3 rfl (by decide +kernel) (R_ld sc100 h) ?_
            intro v h
            refine G_p 4 rfl (by decide +kernel) (Y_fa fo48_0 h) ?_
            intro v h
            refine G_r _ 5 rfl (by decide +kernel) (R_ld sc3 h) ?_
            intro v h
            refine G_p 6 rfl (by decide +kernel) (Y_fa fo48_1 h) ?_
            intro v h
            refine G_r _ 7 rfl (by decide +kernel) (R_ld sc9 h) ?_
            intro v h
            refine G_p 8 rfl (by decide +kernel) (Y_ia se100 h) ?_
            intro v h
            refine G_e 9 rfl (by decide +kernel) (P_st on9 h ?_)
            intro w h
            refine ⟨keepF_dep [7] (by decide +kernel) rfl (keepF_dep [5] (by decide +kernel) rfl (keepF_dep [3] (by decide +kernel) rfl keepF_nil)), ?_⟩
            refine G_done (by decide +kernel) ?_
            refine B_n ?_
            refine E_n ?_
            refine L_region ?_
            refine L_u (P_ad h) ?_
            intro v w h
            refine L_mv ?_
            refine L_nil ?_
            refine E_n ?_
            exact L2 _ _ h
          · refine C_exit ?_
            refine E_x ?_
            refine E_x ?_
            refine B_x ?_
            exact J1 _ _ h
        · unfold f44_j1 at h
          refine E_n ?_
          refine wp_seq ?_
          refine L_region ?_
          refine L_mv ?_
          refine L_u (P_nc h) ?_
          intro v w h
          refine L_u (P_fa fo133_3 h) ?_
          intro v w h
          refine L_u (P_ld sc3 h) ?_
          intro v w h
          refine L_u (P_ad h) ?_
          intro v w h
          refine L_u (P_nc h) ?_
          intro v w h
          refine L_u (P_fa fo133_3 h) ?_
          intro v w h
          refine L_u (P_st on3 h) ?_
          intro w h
          refine L_nil ?_
          refine E_n ?_
          refine wp_seq ?_
          refine L_region ?_
          refine L_as ?_
          refine L_nil ?_
          refine E_n ?_
          refine C_ret ?_
          show bodyPost Tryz.prog Tryz.f44 (Rt Q) .ret _ _
          exact post_tmps (ts := [4]) (.inr rfl) rfl h

def f25_j3 (self2 : Value → Value → Value → Value → M) (t0_2 t21_1 t22_2 t23_1 : Value) : M := ad .i64 t23_1 (.int .i64 1) fun t44 => self2 t0_2 t21_1 t22_2 t44
def f25_b2 (j1 : M) (self2 : Value → Value → Value → Value → M) (t0_1 t21 t22_1 t23 : Value) : M := lt .i64 t23 t22_1 fun t24 => cnd t24 ( ia 2 t21 t23 fun t25 => ldn 2 t25 fun t26 => al 48 #[(.int .i64 0), (.string ⟨#[]⟩)] fun t7 => stn 2 t7 t26 <| dr <| idv t0_1 fun t28 => nc t28 fun t29 => fa 7 t29 fun t30 => ld t30 fun t31 => fa 0 t7 fun t32 => ld t32 fun t33 => smr Tryz.prog (Instr.lookup 115 t31 t33 true) fun t34 => idv t34 fun t27 => ex 0 t27 fun t35 => ex 1 t27 fun t36 => idv t35 fun t8 => idv t36 fun t9 => jn (fun (j3 : Value → Value → Value → Value → M) => cnd t9 ( fa 1 t7 fun t39 => ld t39 fun t40 => nc t8 fun t41 => fa 2 t41 fun t42 => fa 1 t42 fun t43 => st t43 t40 <| j3 t0_1 t21 t22_1 t23 ) ( j3 t0_1 t21 t22_1 t23 ) ) (f25_j3 self2) ) ( j1 )
def f25_j1 : M := rt (.int .i64 0)
def f25 (t0 t1 : Value) : M := smr Tryz.prog (do eqGuard .eql 29 (.tmp 10) (.const (.pointer none)) t0 (.pointer none); binOp .eql 29 t0 (.pointer none)) fun t11 => cnd t11 ( rt (.int .i64 1) ) ( nc t0 fun t13 => fa 0 t13 fun t14 => ld t14 fun t15 => cl (f44 t15 t1) fun t17 => nei .i64 t17 (.int .i64 0) fun t19 => cnd t19 ( rt t17 ) ( lnl t1 fun t22 => jn (fun (j1 : M) => lo (fun _ _ _ _ => bot) (f25_b2 j1) (fun l => l t0 t1 t22 (.int .i64 0)) ) (f25_j1) ) )
theorem s25 (t0 t1 : Value) (w : World) (Q : Value → World → Prop) (h : f25 t0 t1 w Q) : Calls Tryz.prog 25 #[t0, t1] w (Rt Q) := by
  refine calls_of (l := [t0, t1]) Tryz.func25 rfl Tryz.ntmps25 (Nat.le_of_ble_eq_true rfl) ?_
  unfold f25 at h
  refine wp_seq ?_
  refine L_region ?_
  refine L_as ?_
  refine L_nil ?_
  refine E_n ?_
  refine wp_seq ?_
  refine wp_seq ?_
  refine L_region ?_
  refine L_mv ?_
  refine L_u (P_smr rfl h) ?_
  intro v w h
  refine L_nil ?_
  refine E_n ?_
  refine C_cnd h (fun h => ?_) (fun h => ?_)
  · refine wp_seq ?_
    refine L_region ?_
    refine L_as ?_
    refine L_nil ?_
    refine E_n ?_
    refine C_ret ?_
    show bodyPost Tryz.prog Tryz.f25 (Rt Q) .ret _ _
    exact post_tmps (ts := [4]) (.inr rfl) rfl h
  · refine C_skip ?_
    refine E_n ?_
    refine wp_seq ?_
    refine wp_seq ?_
    refine L_region ?_
    refine L_mv ?_
    refine L_u (P_nc h) ?_
    intro v w h
    refine L_u (P_fa fo124_0 h) ?_
    intro v w h
    refine L_u (P_ld sc40 h) ?_
    intro v w h
    refine L_mv ?_
    refine L_u (N_cl Tryz.func44 rfl nn44 (fun w Q h => s44 _ _ w Q h) h) ?_
    intro v w h
    refine L_as ?_
    refine L_nil ?_
    refine E_n ?_
    refine wp_seq ?_
    refine L_region ?_
    refine L_mv ?_
    refine L_u (P_nei h) ?_
    intro v w h
    refine L_nil ?_
    refine E_n ?_
    refine C_cnd h (fun h => ?_) (fun h => ?_)
    · refine wp_seq ?_
      refine L_region ?_
      refine L_mv ?_
      refine L_as ?_
      refine L_nil ?_
      refine E_n ?_
      refine C_ret ?_
      show bodyPost Tryz.prog Tryz.f25 (Rt Q) .ret _ _
      exact post_tmps (ts := [4]) (.inr rfl) rfl h
    · refine C_skip ?_
      refine E_n ?_
      refine wp_seq ?_
      refine wp_seq ?_
      refine L_region ?_
      refine L_mv ?_
      refine L_u (P_lnl is49 h) ?_
      intro v w h
      refine L_mv ?_
      refine L_nil ?_
      refine E_n ?_
      refine C_join (fun (k : M) (ρ : Nat → Value) => k) h (fun j1 J1 h => ?_) (fun ρ w h => ?_)
      · refine C_blk ?_
        refine C_lo (fun (l : Value → Value → Value → Value → M) (ρ : Nat → Value) => l (ρ 0) (ρ 21) (ρ 22) (ρ 23)) h (fun ρ w h => h) (fun nx self2 L2 ρ w h => ?_)
        unfold f25_b2 at h
        refine wp_seq ?_
        refine L_region ?_
        refine L_u (P_lt h) ?_
        intro v w h
        refine L_nil ?_
        refine E_n ?_
        refine wp_seq ?_
        refine C_cnd h (fun h => ?_) (fun h => ?_)
        · refine C_skip ?_
          refine E_n ?_
          refine wp_seq ?_
          refine C_blk ?_
          refine wp_seq ?_
          refine L_region ?_
          refine L_u (P_ia se49 h) ?_
          intro v w h
          refine L_u (P_ldn ag48 h) ?_
          intro v w h
          refine L_u (P_al ze48 rfl h) ?_
          intro v w h
          refine L_u (P_stn ag48 h) ?_
          intro w h
          refine L_nil ?_
          refine E_n ?_
          refine wp_seq ?_
          refine D_region (by decide +kernel) 12 rfl ?_
          replace h := dr_e h
          refine G_p 0 rfl (by decide +kernel) (Y_mv h) ?_
          intro v h
          refine G_p 1 rfl (by decide +kernel) (Y_nc h) ?_
          intro v h
          refine G_p 2 rfl (by decide +kernel) (Y_fa fo124_3 h) ?_
          intro v h
          refine G_r _ 3 rfl (by decide +kernel) (R_ld sc115 h) ?_
          intro v h
          refine G_p 4 rfl (by decide +kernel) (Y_fa fo48_0 h) ?_
          intro v h
          refine G_r _ 5 rfl (by decide +kernel) (R_ld sc3 h) ?_
          intro v h
          refine G_r _ 6 rfl (by decide +kernel) (R_sm rfl h) ?_
          intro v h
          refine G_p 7 rfl (by decide +kernel) (Y_mv h) ?_
          intro v h
          refine G_p 8 rfl (by decide +kernel) (Y_ex h) ?_
          intro v h
          refine G_p 9 rfl (by decide +kernel) (Y_ex h) ?_
          intro v h
          refine G_p 10 rfl (by decide +kernel) (Y_as h) ?_
          intro v h
          refine G_p 11 rfl (by decide +kernel) (Y_as h) ?_
          intro v h
          refine G_done (by decide +kernel) ?_
          refine E_n ?_
          refine wp_seq ?_
          refine L_region ?_
          refine L_mv ?_
          refine L_nil ?_
          refine E_n ?_
          refine C_join (fun (k : Value → Value → Value → Value → M) (ρ : Nat → Value) => k (ρ 0) (ρ 21) (ρ 22) (ρ 23)) h (fun j3 J3 h => ?_) (fun ρ w h => ?_)
          · refine C_cnd h (fun h => ?_) (fun h => ?_)
            · refine L_region ?_
              refine L_mv ?_
              refine L_u (P_fa fo48_1 h) ?_
              intro v w h
              refine L_u (P_ld sc9 h) ?_
              intro v w h
              refine L_u (P_nc h) ?_
              intro v w h
              refine L_u (P_fa fo120_2 h) ?_
              intro v w h
              refine L_u (P_fa fo118_1 h) ?_
              intro v w h
              refine L_u (P_st on9 h) ?_
              intro w h
              refine L_nil ?_
              exact J3 _ _ h
            · refine C_skip ?_
              exact J3 _ _ h
          · unfold f25_j3 at h
            refine B_n ?_
            refine E_n ?_
            refine L_region ?_
            refine L_u (P_ad h) ?_
            intro v w h
            refine L_mv ?_
            refine L_nil ?_
            refine E_n ?_
            exact L2 _ _ h
        · refine C_exit ?_
          refine E_x ?_
          refine E_x ?_
          refine B_x ?_
          exact J1 _ _ h
      · unfold f25_j1 at h
        refine E_n ?_
        refine wp_seq ?_
        refine L_region ?_
        refine L_as ?_
        refine L_nil ?_
        refine E_n ?_
        refine C_ret ?_
        show bodyPost Tryz.prog Tryz.f25 (Rt Q) .ret _ _
        exact post_tmps (ts := [4]) (.inr rfl) rfl h

def f26_b2 (j1 : Value → M) (self2 : Value → Value → Value → M) (t0_1 t3 t4 : Value) : M := lnl t3 fun t8 => lt .i64 t4 t8 fun t9 => cnd t9 ( ia 1 t3 t4 fun t15 => st t15 t0_1 <| ad .i64 t4 (.int .i64 1) fun t11 => self2 t0_1 t3 t11 ) ( j1 t3 )
def f26_j1 (t3_1 : Value) : M := smr Tryz.prog (convert 42 9 t3_1) fun t17 => rt t17
def f26 (t0 : Value) : M := sm Tryz.prog (Instr.makeSlice 42 (.int .i64 256) (.int .i64 256)) fun t5 => jn (fun (j1 : Value → M) => lo (fun _ _ _ => bot) (f26_b2 j1) (fun l => l t0 t5 (.int .i64 0)) ) (f26_j1)
def f29 (t0 : Value) : M := mxm t0 (.int .i64 0) fun t4 => mnm t4 (.int .i64 64) fun t5 => smr Tryz.prog (Instr.build 57 #[(0, t5)]) fun t6 => bx 57 t6 fun t7 => rt t7
def f30_j3 (self2 : Value → Value → Value → Value → M) (t0_2 t1_2 t4_1 t5_1 : Value) : M := ad .i64 t5_1 (.int .i64 1) fun t14 => self2 t0_2 t1_2 t4_1 t14
def f30_b2 (j1 : Value → Value → Value → M) (self2 : Value → Value → Value → Value → M) (t0_1 t1_1 t4 t5 : Value) : M := nc t0_1 fun t8 => fa 1 t8 fun t9 => ld t9 fun t10 => lnl t10 fun t11 => lt .i64 t5 t11 fun t12 => cnd t12 ( nc t0_1 fun t16 => fa 1 t16 fun t17 => ld t17 fun t18 => ia 1 t18 t5 fun t20 => ld t20 fun t21 => eqi .i64 t21 t1_1 fun t23 => jn (fun (j3 : Value → Value → Value → Value → M) => cnd t23 ( j3 t0_1 t1_1 t5 t5 ) ( j3 t0_1 t1_1 t4 t5 ) ) (f30_j3 self2) ) ( j1 t0_1 t1_1 t4 )
def f30_j4 (t0_4 t1_4 : Value) : M := sm Tryz.prog (Instr.buildSlice 22 1 #[(0, t1_4)]) fun t61 => nc t0_4 fun t63 => fa 1 t63 fun t64 => ld t64 fun t65 => sm Tryz.prog (Builtin.append_ #[22, 22] 22 #[t61, t65]) fun t66 => nc t0_4 fun t67 => fa 1 t67 fun t68 => st t68 t66 <| dr <| idv t0_4 fun t69 => nc t69 fun t70 => fa 1 t70 fun t71 => ld t71 fun t72 => lnl t72 fun t73 => idv t0_4 fun t74 => nc t74 fun t75 => fa 0 t75 fun t76 => ld t76 fun t77 => gt .i64 t73 t77 fun t78 => cnd t78 ( dr <| idv t0_4 fun t79 => idv t0_4 fun t80 => nc t80 fun t81 => fa 1 t81 fun t82 => ld t82 fun t83 => idv t0_4 fun t84 => nc t84 fun t85 => fa 0 t85 fun t86 => ld t86 fun t87 => sll 1 t83 none (some t87) fun t88 => nc t79 fun t89 => fa 1 t89 fun t90 => st t90 t88 <| rt (.tuple #[]) ) ( rt (.tuple #[]) )
def f30_j1 (t0_3 t1_3 t4_2 : Value) : M := ge .i64 t4_2 (.int .i64 0) fun t26 => jn (fun (j4 : Value → Value → M) => cnd t26 ( nc t0_3 fun t28 => fa 2 t28 fun t29 => ld t29 fun t30 => ad .i64 t30 (.int .i64 1) fun t31 => nc t0_3 fun t32 => fa 2 t32 fun t33 => st t33 t31 <| dr <| idv t0_3 fun t34 => idv t0_3 fun t35 => nc t35 fun t36 => fa 1 t36 fun t37 => ld t37 fun t38 => idv t4_2 fun t39 => sll 1 t38 none (some t39) fun t40 => idv t0_3 fun t42 => nc t42 fun t43 => fa 1 t43 fun t44 => ld t44 fun t45 => idv t4_2 fun t46 => ad .i64 t46 (.int .i64 1) fun t47 => sll 1 t45 (some t47) none fun t48 => sm Tryz.prog (Builtin.append_ #[22, 22] 22 #[(.slice none 0 0), t40]) fun t41 => kp (Kld t44 t45) <| sm Tryz.prog (Builtin.append_ #[22, 22] 22 #[t41, t48]) fun t49 => nc t34 fun t50 => fa 1 t50 fun t51 => st t51 t49 <| j4 t0_3 t1_3 ) ( nc t0_3 fun t53 => fa 3 t53 fun t54 => ld t54 fun t55 => ad .i64 t55 (.int .i64 1) fun t56 => nc t0_3 fun t57 => fa 3 t57 fun t58 => st t58 t56 <| j4 t0_3 t1_3 ) ) (f30_j4)
def f30 (t0 t1 : Value) : M := jn (fun (j1 : Value → Value → Value → M) => lo (fun _ _ _ _ => bot) (f30_b2 j1) (fun l => l t0 t1 (.int .i64 (-1)) (.int .i64 0)) ) (f30_j1)
end Go.Proofs.YtongpnolikkknaaGreatDoor

set_option maxRecDepth 20000
set_option maxHeartbeats 4000000
namespace Go.Proofs.YtongpnolikkknaaGreatDoor
open Sh
attribute [local irreducible] wpL anyG act jn lo gdB amb kp smr nc fa ld ldn st stn ad su mu qu re lt le gt ge eqi nei bws shl shr cat eqs nes lts gts eqb neb nt pk cv al bx ex fld fldn lnl lns ia iaa ixs sls sll sla mif mnm mxm mm asrt sm smu cl cc cf ci cnd gd gdu
def f5_j3 (self2 : Value → Value → Value → Value → M) (t2_2 t7_1 t8_1 t9_1 : Value) : M := dr <| idv t7_1 fun t62 => idv t8_1 fun t64 => nc t64 fun t65 => fa 2 t65 fun t66 => ld t66 fun t67 => cl (f31 t62) fun t63 => kp (Kld t66 t67) <| nei .i64 t63 t67 fun t68 => idv t68 fun t69 => gd t69 false (idv t7_1) fun t70 => gd t69 false (idv t8_1) fun t72 => gd t69 false (nc t72) fun t73 => gd t69 false (fa 3 t73) fun t74 => gd t69 false (ld t74) fun t75 => gd t69 false (cl (f32 t70)) fun t71 => kp (fun w => gdB t69 false = true → Kld t74 t75 w) <| gd t69 false (nei .i64 t71 t75) fun t76 => pk t69 (.bool true) t76 fun t77 => idv t77 fun t78 => gd t78 false (idv t7_1) fun t79 => gd t78 false (idv t8_1) fun t81 => gd t78 false (nc t81) fun t82 => gd t78 false (fa 1 t82) fun t83 => gd t78 false (ld t83) fun t84 => gd t78 false (cl (f34 t79)) fun t80 => kp (fun w => gdB t78 false = true → Kld t83 t84 w) <| gd t78 false (cl (f33 t80 t84)) fun t85 => gd t78 false (nt t85) fun t86 => pk t78 (.bool true) t86 fun t87 => cnd t87 ( rt (.bool false) ) ( ad .i64 t9_1 (.int .i64 1) fun t33 => self2 t2_2 t7_1 t8_1 t33 )
def f5_b2 (j1 : M) (self2 : Value → Value → Value → Value → M) (t2_1 t7 t8 t9 : Value) : M := lnl t2_1 fun t30 => lt .i64 t9 t30 fun t31 => cnd t31 ( ia 3 t2_1 t9 fun t36 => ldn 3 t36 fun t37 => al 44 #[(.int .i64 0), (.int .u8 0), (.bool false)] fun t10 => stn 3 t10 t37 <| fa 2 t10 fun t38 => ld t38 fun t39 => jn (fun (j3 : Value → Value → Value → Value → M) => cnd t39 ( dr <| idv t7 fun t40 => fa 0 t10 fun t41 => ld t41 fun t42 => fa 1 t10 fun t43 => ld t43 fun t44 => cl (f26 t44) fun t45 => kp (Kld t41 t42) <| smr Tryz.prog (Instr.build 48 #[(0, t42), (1, t45)]) fun t46 => sm Tryz.prog (Instr.buildSlice 49 1 #[(0, t46)]) fun t47 => cl (f25 t40 t47) fun t48 => j3 t2_1 t7 t8 t9 ) ( fa 0 t10 fun t51 => ld t51 fun t52 => cl (f27 t7 t52) fun t53 => ex 0 t53 fun t54 => ex 1 t53 fun t55 => eqi .i64 t55 (.int .i64 0) fun t57 => cnd t57 ( fa 0 t10 fun t59 => ld t59 fun t60 => cl (f30 t8 t60) fun t61 => j3 t2_1 t7 t8 t9 ) ( j3 t2_1 t7 t8 t9 ) ) ) (f5_j3 self2) ) ( j1 )
def f5_j1 : M := rt (.bool true)
def f5 (t0 t1 t2 : Value) : M := cl (f21) fun t13 => nt t13 fun t14 => cnd t14 ( rt (.bool false) ) ( cv .u64 t0 fun t16 => re .u64 t16 (.int .u64 30) fun t17 => cv .i64 t17 fun t18 => ad .i64 (.int .i64 1) t18 fun t19 => cl (f22 t2) fun t21 => cl (f24 t19) fun t23 => cl (f23 t23 t1) fun t25 => cl (f29 t1) fun t27 => jn (fun (j1 : M) => lo (fun _ _ _ _ => bot) (f5_b2 j1) (fun l => l t21 t25 t27 (.int .i64 0)) ) (f5_j1) )
def f6 (t0 : Value) : M := cl (f21) fun t6 => nt t6 fun t7 => cnd t7 ( rt (.bool false) ) ( cl (f23 (.pointer none) t0) fun t9 => cl (f27 t9 t0) fun t13 => ex 0 t13 fun t14 => ex 1 t13 fun t15 => smr Tryz.prog (do eqGuard .eql 29 (.tmp 16) (.const (.pointer none)) t9 (.pointer none); binOp .eql 29 t9 (.pointer none)) fun t17 => gd t17 true (idv t14) fun t19 => gd t17 true (eqs t19 (.string ⟨#[]⟩)) fun t20 => pk t17 t20 (.bool false) fun t21 => gd t21 true (idv t15) fun t23 => gd t21 true (eqi .i64 t23 (.int .i64 1)) fun t24 => pk t21 t24 (.bool false) fun t25 => gd t25 true (idv t9) fun t27 => gd t25 true (cl (f25 t27 (.slice none 0 0))) fun t28 => gd t25 true (eqi .i64 t28 (.int .i64 1)) fun t29 => pk t25 t29 (.bool false) fun t30 => gd t30 true (idv t9) fun t32 => gd t30 true (cl (f34 t32)) fun t33 => gd t30 true (lnl t33) fun t34 => gd t30 true (eqi .i64 t34 (.int .i64 0)) fun t35 => pk t30 t35 (.bool false) fun t36 => gd t36 true (idv t9) fun t38 => gd t36 true (cl (f31 t38)) fun t39 => gd t36 true (eqi .i64 t39 (.int .i64 0)) fun t40 => pk t36 t40 (.bool false) fun t41 => gd t41 true (idv t9) fun t43 => gd t41 true (cl (f32 t43)) fun t44 => gd t41 true (eqi .i64 t44 (.int .i64 0)) fun t45 => pk t41 t45 (.bool false) fun t46 => gd t46 true (idv t9) fun t48 => gd t46 true (cl (f28 t48)) fun t49 => gd t46 true (eqi .i64 t49 (.int .i64 0)) fun t50 => pk t46 t50 (.bool false) fun t51 => rt t51 )
def f50 (t0 : Value) : M := smr Tryz.prog (do eqGuard .eql 40 (.tmp 3) (.const (.pointer none)) t0 (.pointer none); binOp .eql 40 t0 (.pointer none)) fun t4 => cnd t4 ( rt (.int .i64 0) ) ( nc t0 fun t6 => fa 3 t6 fun t7 => ld t7 fun t8 => rt t8 )
def f80_b2 (j1 : Value → M) (self2 : Value → Value → Value → M) (t0_1 t3 t4 : Value) : M := lnl t3 fun t8 => lt .i64 t4 t8 fun t9 => cnd t9 ( ia 1 t3 t4 fun t15 => st t15 t0_1 <| ad .i64 t4 (.int .i64 1) fun t11 => self2 t0_1 t3 t11 ) ( j1 t3 )
def f80_j1 (t3_1 : Value) : M := smr Tryz.prog (convert 42 9 t3_1) fun t17 => rt t17
def f80 (t0 : Value) : M := sm Tryz.prog (Instr.makeSlice 42 (.int .i64 256) (.int .i64 256)) fun t5 => jn (fun (j1 : Value → M) => lo (fun _ _ _ => bot) (f80_b2 j1) (fun l => l t0 t5 (.int .i64 0)) ) (f80_j1)
def f35 : M := cl (f39 (.int .i64 3)) fun t8 => cl (f38 t8) fun t9 => cl (f40 t9 (.int .i64 3)) fun t12 => ex 0 t12 fun t13 => ex 1 t12 fun t14 => nei .i64 t14 (.int .i64 0) fun t16 => gd t16 false (idv t13) fun t18 => gd t16 false (smr Tryz.prog (do eqGuard .eql 40 (.tmp 18) (.const (.pointer none)) t18 (.pointer none); binOp .eql 40 t18 (.pointer none))) fun t19 => pk t16 (.bool true) t19 fun t20 => gd t20 false (idv t13) fun t22 => gd t20 false (cl (f80 (.int .u8 7))) fun t23 => gd t20 false (smr Tryz.prog (Instr.build 48 #[(0, (.int .i64 1)), (1, t23)])) fun t24 => gd t20 false (sm Tryz.prog (Instr.buildSlice 49 1 #[(0, t24)])) fun t25 => gd t20 false (cl (f44 t22 t25)) fun t26 => gd t20 false (nei .i64 t26 (.int .i64 0)) fun t27 => pk t20 (.bool true) t27 fun t28 => cnd t28 ( rt (.bool false) ) ( cl (f40 t9 (.int .i64 3)) fun t31 => ex 0 t31 fun t32 => ex 1 t31 fun t33 => cl (f78 t32 (.int .i64 1)) fun t36 => ex 0 t36 fun t37 => ex 1 t36 fun t38 => eqi .i64 t33 (.int .i64 0) fun t40 => gd t40 true (idv t38) fun t42 => gd t40 true (eqi .i64 t42 (.int .i64 0)) fun t43 => pk t40 t43 (.bool false) fun t44 => gd t44 true (idv t37) fun t46 => gd t44 true (cl (f80 (.int .u8 7))) fun t47 => gd t44 true (eqs t46 t47) fun t48 => pk t44 t48 (.bool false) fun t49 => gd t49 true (idv t13) fun t51 => gd t49 true (cl (f50 t51)) fun t52 => gd t49 true (eqi .i64 t52 (.int .i64 1)) fun t53 => pk t49 t53 (.bool false) fun t54 => gd t54 true (idv t32) fun t56 => gd t54 true (cl (f79 t56)) fun t57 => gd t54 true (eqi .i64 t57 (.int .i64 3)) fun t58 => pk t54 t58 (.bool false) fun t59 => rt t59 )
def f36 (t0 : Value) : M := cv .u64 t0 fun t4 => re .u64 t4 (.int .u64 40) fun t5 => cv .i64 t5 fun t6 => ad .i64 (.int .i64 1) t6 fun t7 => rt t7
def f37 (t0 : Value) : M := lnl t0 fun t5 => mnm t5 (.int .i64 30) fun t6 => sll 2 t0 none (some t6) fun t7 => rt t7
def f88 : M := sm Tryz.prog (Instr.makeSlice 42 (.int .i64 256) (.int .i64 256)) fun t1 => smr Tryz.prog (convert 42 9 t1) fun t2 => rt t2
theorem s88 (w : World) (Q : Value → World → Prop) (h : f88 w Q) : Calls Tryz.prog 88 #[] w (Rt Q) := by
  refine calls_of (l := []) Tryz.func88 rfl Tryz.ntmps88 (Nat.le_of_ble_eq_true rfl) ?_
  unfold f88 at h
  refine wp_seq ?_
  refine L_region ?_
  refine L_as ?_
  refine L_nil ?_
  refine E_n ?_
  refine wp_seq ?_
  refine L_region ?_
  refine L_u (P_sm rfl h) ?_
  intro v w h
  refine L_u (P_smr rfl h) ?_
  intro v w h
  refine L_as ?_
  refine L_nil ?_
  refine E_n ?_
  refine C_ret ?_
  show bodyPost Tryz.prog Tryz.f88 (Rt Q) .ret _ _
  exact post_tmps (ts := [0]) (.inr rfl) rfl h

def f41_b2 (j1 : Value → M) (self2 : Value → Value → Value → M) (t0_1 t3 t4 : Value) : M := lt .i64 t4 t0_1 fun t9 => cnd t9 ( dr <| idv t3 fun t12 => idv t3 fun t13 => nc t13 fun t14 => fa 0 t14 fun t15 => ld t15 fun t16 => cl (f88) fun t17 => kp (Kld t15 t16) <| sm Tryz.prog (Instr.buildSlice 100 1 #[(0, t17)]) fun t18 => kp (Kld t15 t16) <| sm Tryz.prog (Builtin.append_ #[100, 100] 100 #[t16, t18]) fun t19 => nc t12 fun t20 => fa 0 t20 fun t21 => st t21 t19 <| ad .i64 t4 (.int .i64 1) fun t11 => self2 t0_1 t3 t11 ) ( j1 t3 )
def f41_j1 (t3_1 : Value) : M := rt t3_1
def f41 (t0 : Value) : M := smr Tryz.prog (Instr.build 102 #[]) fun t5 => bx 102 t5 fun t6 => jn (fun (j1 : Value → M) => lo (fun _ _ _ => bot) (f41_b2 j1) (fun l => l t0 t6 (.int .i64 0)) ) (f41_j1)
theorem s41 (t0 : Value) (w : World) (Q : Value → World → Prop) (h : f41 t0 w Q) : Calls Tryz.prog 41 #[t0] w (Rt Q) := by
  refine calls_of (l := [t0]) Tryz.func41 rfl Tryz.ntmps41 (Nat.le_of_ble_eq_true rfl) ?_
  unfold f41 at h
  refine wp_seq ?_
  refine L_region ?_
  refine L_as ?_
  refine L_nil ?_
  refine E_n ?_
  refine wp_seq ?_
  refine L_region ?_
  refine L_u (N_bld h) ?_
  intro v w h
  refine L_u (P_bx h) ?_
  intro v w h
  refine L_as ?_
  refine L_nil ?_
  refine E_n ?_
  refine wp_seq ?_
  refine wp_seq ?_
  refine L_region ?_
  refine L_as ?_
  refine L_nil ?_
  refine E_n ?_
  refine C_join (fun (k : Value → M) (ρ : Nat → Value) => k (ρ 3)) h (fun j1 J1 h => ?_) (fun ρ w h => ?_)
  · refine C_blk ?_
    refine C_lo (fun (l : Value → Value → Value → M) (ρ : Nat → Value) => l (ρ 0) (ρ 3) (ρ 4)) h (fun ρ w h => h) (fun nx self2 L2 ρ w h => ?_)
    unfold f41_b2 at h
    refine wp_seq ?_
    refine wp_seq ?_
    refine L_region ?_
    refine L_mv ?_
    refine L_mv ?_
    refine L_u (P_lt h) ?_
    intro v w h
    refine L_nil ?_
    refine E_n ?_
    refine C_cnd h (fun h => ?_) (fun h => ?_)
    · refine C_skip ?_
      refine E_n ?_
      refine wp_seq ?_
      refine C_blk ?_
      refine D_region (by decide +kernel) 11 rfl ?_
      replace h := dr_e h
      refine G_p 0 rfl (by decide +kernel) (Y_mv h) ?_
      intro v h
      refine G_p 1 rfl (by decide +kernel) (Y_mv h) ?_
      intro v h
      refine G_p 2 rfl (by decide +kernel) (Y_nc h) ?_
      intro v h
      refine G_p 3 rfl (by decide +kernel) (Y_fa fo102_0 h) ?_
      intro v h
      refine G_r _ 4 rfl (by decide +kernel) (R_ld sc100 h) ?_
      intro v h
      refine G_e 5 rfl (by decide +kernel) (N_cl Tryz.func88 rfl nn88 (fun w Q h => s88 w Q h) h ?_)
      intro v w h
      refine ⟨keepF_cons (kp_1 h) keepF_nil, ?_⟩
      replace h := (kp_2 h)
      refine G_e 6 rfl (by decide +kernel) (N_bsl h ?_)
      intro v w h
      refine ⟨keepF_cons (kp_1 h) keepF_nil, ?_⟩
      replace h := (kp_2 h)
      refine G_e 7 rfl (by decide +kernel) (N_bi rfl h ?_)
      intro v w h
      refine ⟨keepF_dep [4] (by decide +kernel) rfl keepF_nil, ?_⟩
      refine G_p 8 rfl (by decide +kernel) (Y_nc h) ?_
      intro v h
      refine G_p 9 rfl (by decide +kernel) (Y_fa fo102_0 h) ?_
      intro v h
      refine G_e 10 rfl (by decide +kernel) (P_st on100 h ?_)
      intro w h
      refine ⟨keepF_dep [4] (by decide +kernel) rfl keepF_nil, ?_⟩
      refine G_done (by decide +kernel) ?_
      refine B_n ?_
      refine E_n ?_
      refine L_region ?_
      refine L_mv ?_
      refine L_u (P_ad h) ?_
      intro v w h
      refine L_as ?_
      refine L_nil ?_
      refine E_n ?_
      exact L2 _ _ h
    · refine C_exit ?_
      refine E_x ?_
      refine E_x ?_
      refine B_x ?_
      exact J1 _ _ h
  · unfold f41_j1 at h
    refine E_n ?_
    refine wp_seq ?_
    refine L_region ?_
    refine L_mv ?_
    refine L_as ?_
    refine L_nil ?_
    refine E_n ?_
    refine C_ret ?_
    show bodyPost Tryz.prog Tryz.f41 (Rt Q) .ret _ _
    exact post_tmps (ts := [2]) (.inr rfl) rfl h

def f42_j3 (self2 : Value → Value → Value → Value → M) (t1_2 t4_1 t5_1 t6_1 t7 : Value) : M := dr <| idv t4_1 fun t27 => fa 0 t1_2 fun t28 => ld t28 fun t29 => idv t6_1 fun t30 => ia 1 t29 t30 fun t31 => ld t31 fun t32 => idv t7 fun t33 => cl (f80 t33) fun t34 => kp (Kld t31 t32) <| kp (Kld t28 t29) <| smr Tryz.prog (Instr.build 48 #[(0, t32), (1, t34)]) fun t35 => sm Tryz.prog (Instr.buildSlice 49 1 #[(0, t35)]) fun t36 => sm Tryz.prog (Builtin.append_ #[49, 49] 49 #[t27, t36]) fun t37 => idv t37 fun t4_2 => dr <| idv t5_1 fun t38 => fa 0 t1_2 fun t39 => ld t39 fun t40 => idv t6_1 fun t41 => ia 1 t40 t41 fun t42 => ld t42 fun t43 => idv t7 fun t44 => cl (f80 t44) fun t45 => kp (Kld t42 t43) <| kp (Kld t39 t40) <| smr Tryz.prog (Instr.build 136 #[(0, t43), (1, t45)]) fun t46 => sm Tryz.prog (Instr.buildSlice 69 1 #[(0, t46)]) fun t47 => sm Tryz.prog (Builtin.append_ #[69, 69] 69 #[t38, t47]) fun t48 => idv t48 fun t5_2 => ad .i64 t6_1 (.int .i64 1) fun t14 => self2 t1_2 t4_2 t5_2 t14
def f42_b2 (j1 : Value → Value → M) (self2 : Value → Value → Value → Value → M) (t1_1 t4 t5 t6 : Value) : M := fa 0 t1_1 fun t9 => ld t9 fun t10 => lnl t10 fun t11 => lt .i64 t6 t11 fun t12 => cnd t12 ( cv .u8 t6 fun t16 => fa 1 t1_1 fun t18 => ld t18 fun t19 => lnl t19 fun t20 => lt .i64 t6 t20 fun t21 => jn (fun (j3 : Value → Value → Value → Value → Value → M) => cnd t21 ( fa 1 t1_1 fun t22 => ld t22 fun t23 => ia 1 t23 t6 fun t25 => ld t25 fun t26 => j3 t1_1 t4 t5 t6 t26 ) ( j3 t1_1 t4 t5 t6 t16 ) ) (f42_j3 self2) ) ( j1 t4 t5 )
def f42_j1 (t4_3 t5_3 : Value) : M := rt (.tuple #[t4_3, t5_3])
def f42 (t0 : Value) : M := bx 72 t0 fun t1 => jn (fun (j1 : Value → Value → M) => lo (fun _ _ _ _ => bot) (f42_b2 j1) (fun l => l t1 (.slice none 0 0) (.slice none 0 0) (.int .i64 0)) ) (f42_j1)
def f43 (t0 : Value) : M := smr Tryz.prog (do eqGuard .eql 63 (.tmp 3) (.const (.pointer none)) t0 (.pointer none); binOp .eql 63 t0 (.pointer none)) fun t4 => cnd t4 ( rt (.int .i64 0) ) ( nc t0 fun t6 => fa 2 t6 fun t7 => ld t7 fun t8 => rt t8 )
def f45_b2 (j1 : Value → M) (self2 : Value → Value → Value → M) (t0_1 t1_1 t5 : Value) : M := lnl t1_1 fun t13 => lt .i64 t5 t13 fun t14 => cnd t14 ( dr <| idv t1_1 fun t17 => idv t5 fun t18 => ia 2 t17 t18 fun t19 => fa 0 t19 fun t20 => ld t20 fun t21 => lt .i64 t21 (.int .i64 0) fun t22 => idv t22 fun t23 => gd t23 false (idv t1_1) fun t24 => gd t23 false (idv t5) fun t25 => gd t23 false (ia 2 t24 t25) fun t26 => gd t23 false (fa 0 t26) fun t27 => gd t23 false (ld t27) fun t28 => gd t23 false (idv t0_1) fun t29 => gd t23 false (nc t29) fun t30 => gd t23 false (fa 0 t30) fun t31 => gd t23 false (ld t31) fun t32 => gd t23 false (lnl t32) fun t33 => gd t23 false (ge .i64 t28 t33) fun t34 => pk t23 (.bool true) t34 fun t35 => cnd t35 ( rt (.int .i64 7) ) ( ad .i64 t5 (.int .i64 1) fun t16 => self2 t0_1 t1_1 t16 ) ) ( j1 t1_1 )
def f45_b6 (j5 : Value → Value → M) (self6 : Value → Value → Value → M) (t1_4 t6_1 t7 : Value) : M := lt .i64 t7 t6_1 fun t51 => cnd t51 ( dr <| idv t1_4 fun t54 => idv t6_1 fun t55 => ia 2 t54 t55 fun t56 => fa 0 t56 fun t57 => ld t57 fun t58 => idv t1_4 fun t59 => idv t7 fun t60 => ia 2 t59 t60 fun t61 => fa 0 t61 fun t62 => ld t62 fun t63 => eqi .i64 t58 t63 fun t64 => cnd t64 ( rt (.int .i64 1) ) ( ad .i64 t7 (.int .i64 1) fun t53 => self6 t1_4 t6_1 t53 ) ) ( j5 t1_4 t6_1 )
def f45_j5 (self4 : Value → Value → M) (t1_5 t6_2 : Value) : M := ad .i64 t6_2 (.int .i64 1) fun t41 => self4 t1_5 t41
def f45_b4 (j3 : M) (self4 : Value → Value → M) (t1_3 t6 : Value) : M := lnl t1_3 fun t38 => lt .i64 t6 t38 fun t39 => cnd t39 ( ia 2 t1_3 t6 fun t44 => fa 1 t44 fun t45 => ld t45 fun t46 => lns t46 fun t47 => nei .i64 t47 (.int .i64 256) fun t48 => cnd t48 ( rt (.int .i64 1) ) ( jn (fun (j5 : Value → Value → M) => lo (fun _ _ _ => bot) (f45_b6 j5) (fun l => l t1_3 t6 (.int .i64 0)) ) (f45_j5 self4) ) ) ( j3 )
def f45_j3 : M := rt (.int .i64 0)
def f45_j1 (t1_2 : Value) : M := jn (fun (j3 : M) => lo (fun _ _ => bot) (f45_b4 j3) (fun l => l t1_2 (.int .i64 0)) ) (f45_j3)
def f45 (t0 t1 : Value) : M := lnl t1 fun t9 => gt .i64 t9 (.int .i64 31) fun t10 => cnd t10 ( rt (.int .i64 3) ) ( jn (fun (j1 : Value → M) => lo (fun _ _ _ => bot) (f45_b2 j1) (fun l => l t0 t1 (.int .i64 0)) ) (f45_j1) )
def f46_b2 (j1 : Value → M) (self2 : Value → Value → Value → M) (t1_1 t5 t6 : Value) : M := lnl t1_1 fun t16 => lt .i64 t6 t16 fun t17 => cnd t17 ( dr <| idv t5 fun t20 => nc t20 fun t21 => fa 0 t21 fun t22 => ld t22 fun t23 => idv t1_1 fun t24 => idv t6 fun t25 => ia 2 t24 t25 fun t26 => fa 0 t26 fun t27 => ld t27 fun t28 => idv t1_1 fun t29 => idv t6 fun t30 => ia 2 t29 t30 fun t31 => fa 1 t31 fun t32 => ld t32 fun t33 => ia 1 t23 t28 fun t34 => st t34 t33 <| ad .i64 t6 (.int .i64 1) fun t19 => self2 t1_1 t5 t19 ) ( j1 t5 )
def f46_j1 (t5_1 : Value) : M := rt t5_1
def f46 (t0 t1 : Value) : M := nc t0 fun t8 => fa 0 t8 fun t9 => ld t9 fun t10 => sm Tryz.prog (Builtin.append_ #[100, 100] 100 #[(.slice none 0 0), t10]) fun t11 => smr Tryz.prog (Instr.build 102 #[(0, t11)]) fun t12 => bx 102 t12 fun t13 => jn (fun (j1 : Value → M) => lo (fun _ _ _ => bot) (f46_b2 j1) (fun l => l t1 t13 (.int .i64 0)) ) (f46_j1)
def f47 (t0 : Value) : M := eqi .i64 t0 (.int .i64 0) fun t4 => cnd t4 ( rt (.int .i64 0) ) ( mu .i64 (.int .i64 4) t0 fun t6 => ad .i64 (.int .i64 1) t6 fun t7 => ad .i64 t7 (.int .i64 1) fun t8 => ad .i64 t8 (.int .i64 2) fun t9 => mu .i64 (.int .i64 4) t0 fun t11 => ad .i64 t9 t11 fun t12 => ad .i64 t12 (.int .i64 1) fun t13 => ad .i64 t13 (.int .i64 2) fun t14 => rt t14 )
def f48 (t0 : Value) : M := smr Tryz.prog (do eqGuard .eql 63 (.tmp 3) (.const (.pointer none)) t0 (.pointer none); binOp .eql 63 t0 (.pointer none)) fun t4 => cnd t4 ( rt (.slice none 0 0) ) ( nc t0 fun t6 => fa 1 t6 fun t7 => ld t7 fun t8 => cc Tryz.prog 93 #[t8] fun t9 => cc Tryz.prog 92 #[t9] fun t10 => rt t10 )
def f49_b2 (j1 : M) (self2 : Value → Value → Value → M) (t0_1 t1_1 t5 : Value) : M := nc t1_1 fun t18 => fa 0 t18 fun t19 => ld t19 fun t20 => lnl t20 fun t21 => lt .i64 t5 t21 fun t22 => cnd t22 ( cl (f78 t0_1 t5) fun t28 => ex 0 t28 fun t29 => ex 1 t28 fun t30 => nei .i64 t30 (.int .i64 0) fun t32 => gd t32 false (idv t29) fun t34 => gd t32 false (idv t1_1) fun t35 => gd t32 false (nc t35) fun t36 => gd t32 false (fa 0 t36) fun t37 => gd t32 false (ld t37) fun t38 => gd t32 false (idv t5) fun t39 => gd t32 false (ia 1 t38 t39) fun t40 => gd t32 false (ld t40) fun t41 => gd t32 false (nes t34 t41) fun t42 => pk t32 (.bool true) t42 fun t43 => cnd t43 ( rt (.bool false) ) ( ad .i64 t5 (.int .i64 1) fun t24 => self2 t0_1 t1_1 t24 ) ) ( j1 )
def f49_j1 : M := rt (.bool true)
def f49 (t0 t1 : Value) : M := dr <| idv t0 fun t8 => idv t1 fun t10 => nc t10 fun t11 => fa 0 t11 fun t12 => ld t12 fun t13 => lnl t13 fun t14 => cl (f79 t8) fun t9 => kp (Kld t12 t13) <| nei .i64 t9 t14 fun t15 => cnd t15 ( rt (.bool false) ) ( jn (fun (j1 : M) => lo (fun _ _ _ => bot) (f49_b2 j1) (fun l => l t0 t1 (.int .i64 0)) ) (f49_j1) )
def f7_j4 (j3 : Value → Value → Value → Value → Value → Value → Value → M) (t0_2 t1_2 t5_1 t6_1 t8_1 t9_1 t10_1 t12 t13 : Value) : M := cl (f43 t5_1) fun t81 => lnl t12 fun t84 => cl (f47 t84) fun t85 => ad .i64 t13 t85 fun t86 => nei .i64 t81 t86 fun t87 => gd t87 false (idv t5_1) fun t89 => gd t87 false (cl (f48 t89)) fun t90 => gd t87 false (lnl t90) fun t91 => gd t87 false (nei .i64 t91 (.int .i64 0)) fun t92 => pk t87 (.bool true) t92 fun t93 => cnd t93 ( rt (.bool false) ) ( j3 t0_2 t1_2 t5_1 t6_1 t8_1 t9_1 t10_1 )
def f7_j3 (self2 : Value → Value → Value → Value → Value → Value → Value → M) (t0_3 t1_3 t5_2 t6_2 t8_2 t9_2 t10_2 : Value) : M := cl (f49 t6_2 t8_2) fun t96 => nt t96 fun t97 => gd t97 false (idv t6_2) fun t99 => gd t97 false (cl (f50 t99)) fun t100 => gd t97 false (idv t9_2) fun t101 => gd t97 false (nei .i64 t100 t101) fun t102 => pk t97 (.bool true) t102 fun t103 => cnd t103 ( rt (.bool false) ) ( ad .i64 t10_2 (.int .i64 1) fun t40 => self2 t0_3 t1_3 t5_2 t6_2 t8_2 t9_2 t40 )
def f7_b2 (j1 : Value → Value → Value → M) (self2 : Value → Value → Value → Value → Value → Value → Value → M) (t0_1 t1_1 t5 t6 t8 t9 t10 : Value) : M := lnl t1_1 fun t37 => lt .i64 t10 t37 fun t38 => cnd t38 ( ia 2 t1_1 t10 fun t44 => ldn 2 t44 fun t45 => cl (f42 t45) fun t46 => ex 0 t46 fun t47 => ex 1 t46 fun t48 => cl (f43 t5) fun t50 => cl (f44 t6 t47) fun t53 => cl (f45 t8 t48) fun t56 => nei .i64 t53 t56 fun t59 => gd t59 false (idv t5) fun t61 => gd t59 false (cl (f43 t61)) fun t62 => gd t59 false (idv t50) fun t63 => gd t59 false (nei .i64 t62 t63) fun t64 => gd t59 false (idv t64) fun t65 => gd t65 true (idv t53) fun t66 => gd t65 true (nei .i64 t66 (.int .i64 0)) fun t67 => gd t59 false (pk t65 t67 (.bool false)) fun t68 => pk t59 (.bool true) t68 fun t69 => cnd t69 ( rt (.bool false) ) ( eqi .i64 t53 (.int .i64 0) fun t71 => jn (fun (j3 : Value → Value → Value → Value → Value → Value → Value → M) => cnd t71 ( cl (f46 t8 t48) fun t74 => lnl t48 fun t76 => gt .i64 t76 (.int .i64 0) fun t77 => jn (fun (j4 : Value → Value → Value → Value → Value → Value → Value → Value → Value → M) => cnd t77 ( ad .i64 t9 (.int .i64 1) fun t79 => j4 t0_1 t1_1 t5 t6 t74 t79 t10 t48 t50 ) ( j4 t0_1 t1_1 t5 t6 t74 t9 t10 t48 t50 ) ) (f7_j4 j3) ) ( j3 t0_1 t1_1 t5 t6 t8 t9 t10 ) ) (f7_j3 self2) ) ) ( j1 t0_1 t5 t8 )
def f7_j1 (t0_4 t5_3 t8_3 : Value) : M := cl (f40 t5_3 t0_4) fun t107 => ex 0 t107 fun t108 => ex 1 t107 fun t109 => eqi .i64 t109 (.int .i64 0) fun t111 => gd t111 true (idv t108) fun t113 => gd t111 true (idv t8_3) fun t114 => gd t111 true (cl (f49 t113 t114)) fun t115 => pk t111 t115 (.bool false) fun t116 => rt t116
def f7 (t0 t1 : Value) : M := cl (f35) fun t16 => nt t16 fun t17 => cnd t17 ( rt (.bool false) ) ( cl (f36 t0) fun t19 => cl (f37 t1) fun t21 => cl (f39 t19) fun t23 => cl (f38 t23) fun t24 => cl (f40 t24 t19) fun t28 => ex 0 t28 fun t29 => ex 1 t28 fun t30 => nei .i64 t30 (.int .i64 0) fun t32 => cnd t32 ( rt (.bool false) ) ( cl (f41 t19) fun t34 => jn (fun (j1 : Value → Value → Value → M) => lo (fun _ _ _ _ _ _ _ => bot) (f7_b2 j1) (fun l => l t19 t21 t24 t29 t34 (.int .i64 0) (.int .i64 0)) ) (f7_j1) ) )
end Go.Proofs.YtongpnolikkknaaGreatDoor

set_option maxRecDepth 20000
set_option maxHeartbeats 4000000
namespace Go.Proofs.YtongpnolikkknaaGreatDoor
open Sh
attribute [local irreducible] wpL anyG act jn lo gdB amb kp smr nc fa ld ldn st stn ad su mu qu re lt le gt ge eqi nei bws shl shr cat eqs nes lts gts eqb neb nt pk cv al bx ex fld fldn lnl lns ia iaa ixs sls sll sla mif mnm mxm mm asrt sm smu cl cc cf ci cnd gd gdu
def f51_j3 (self2 : Value → Value → Value → Value → Value → Value → Value → M) (t0_2 t1_2 t2_2 t3_2 t14_2 t15_2 t16_1 : Value) : M := ad .i64 t16_1 (.int .i64 1) fun t74 => self2 t0_2 t1_2 t2_2 t3_2 t14_2 t15_2 t74
def f51_b2 (j1 : Value → M) (self2 : Value → Value → Value → Value → Value → Value → Value → M) (t0_1 t1_1 t2_1 t3_1 t14_1 t15_1 t16 : Value) : M := lt .i64 t16 t15_1 fun t17 => cnd t17 ( ia 1 t14_1 t16 fun t19 => ld t19 fun t20 => nc t0_1 fun t22 => fa 1 t22 fun t23 => ld t23 fun t24 => smr Tryz.prog (Instr.lookup 128 t24 t20 false) fun t26 => al 145 (Array.replicate 64 (.int .u8 0)) fun t10 => stn 64 t10 t26 <| eqi .i64 t16 t2_1 fun t30 => jn (fun (j3 : Value → Value → Value → Value → Value → Value → Value → M) => cnd t30 ( dr <| idv t0_1 fun t31 => nc t31 fun t32 => fa 0 t32 fun t33 => ld t33 fun t34 => idv t20 fun t35 => ia 64 t34 t35 fun t36 => idv t3_1 fun t37 => mxm t37 (.int .i64 0) fun t38 => mnm t38 (.int .i64 64) fun t39 => sla 64 1 t36 none (some t39) fun t40 => sla 64 1 t10 none none fun t41 => sm Tryz.prog (Builtin.copy_ #[42, 42] 3 #[t40, t41]) fun t42 => j3 t0_1 t1_1 t2_1 t3_1 t14_1 t15_1 t16 ) ( dr <| idv t1_1 fun t44 => lnl t44 fun t45 => gt .i64 t45 (.int .i64 0) fun t46 => idv t46 fun t47 => gd t47 true (idv t1_1) fun t48 => gd t47 true (idv t16) fun t49 => gd t47 true (idv t1_1) fun t50 => gd t47 true (lnl t50) fun t51 => gd t47 true (re .i64 t49 t51) fun t52 => gd t47 true (ia 1 t48 t52) fun t53 => gd t47 true (ld t53) fun t54 => pk t47 t54 (.bool false) fun t55 => idv t55 fun t56 => gd t56 true (ldn 64 t10) fun t57 => gd t56 true (idv t0_1) fun t58 => gd t56 true (nc t58) fun t59 => gd t56 true (fa 0 t59) fun t60 => gd t56 true (ld t60) fun t61 => gd t56 true (idv t20) fun t62 => gd t56 true (ia 64 t61 t62) fun t63 => gd t56 true (ldn 64 t63) fun t64 => gd t56 true (smr Tryz.prog (do eqGuard .neq 145 (.tmp 57) (.tmp 64) t57 t64; binOp .neq 145 t57 t64)) fun t65 => pk t56 t65 (.bool false) fun t66 => idv t66 fun t43 => cnd t43 ( dr <| idv t0_1 fun t67 => nc t67 fun t68 => fa 0 t68 fun t69 => ld t69 fun t70 => idv t20 fun t71 => ldn 64 t10 fun t72 => ia 64 t70 t71 fun t73 => stn 64 t73 t72 <| j3 t0_1 t1_1 t2_1 t3_1 t14_1 t15_1 t16 ) ( j3 t0_1 t1_1 t2_1 t3_1 t14_1 t15_1 t16 ) ) ) (f51_j3 self2) ) ( j1 t0_1 )
def f51_j1 (t0_3 : Value) : M := nc t0_3 fun t76 => fa 1 t76 fun t77 => ld t77 fun t78 => sm Tryz.prog (Builtin.clear_ #[128] 0 #[t78]) fun _ => nc t0_3 fun t80 => fa 3 t80 fun t81 => st t81 (.int .i64 4611686018427387904) <| rt (.tuple #[])
def f51 (t0 t1 t2 t3 : Value) : M := smr Tryz.prog (do eqGuard .eql 63 (.tmp 11) (.const (.pointer none)) t0 (.pointer none); binOp .eql 63 t0 (.pointer none)) fun t12 => cnd t12 ( rt (.tuple #[]) ) ( cl (f48 t0) fun t14 => lnl t14 fun t15 => jn (fun (j1 : Value → M) => lo (fun _ _ _ _ _ _ _ => bot) (f51_b2 j1) (fun l => l t0 t1 t2 t3 t14 t15 (.int .i64 0)) ) (f51_j1) )
def f8 (t0 t1 t2 : Value) : M := bx 72 t1 fun t4 => bx 80 t2 fun t5 => cl (f35) fun t13 => nt t13 fun t14 => cnd t14 ( rt (.bool false) ) ( cl (f36 t0) fun t16 => cl (f39 t16) fun t18 => cl (f38 t18) fun t19 => cl (f40 t19 t16) fun t23 => ex 0 t23 fun t24 => ex 1 t23 fun t25 => ldn 2 t4 fun t27 => cl (f42 t27) fun t28 => ex 0 t28 fun t29 => ex 1 t28 fun t30 => cl (f41 t16) fun t32 => nei .i64 t25 (.int .i64 0) fun t34 => gd t34 false (idv t24) fun t36 => gd t34 false (idv t29) fun t37 => gd t34 false (cl (f44 t36 t37)) fun t38 => gd t34 false (nei .i64 t38 (.int .i64 0)) fun t39 => pk t34 (.bool true) t39 fun t40 => cnd t40 ( eqi .i64 t25 (.int .i64 0) fun t42 => gd t42 true (idv t32) fun t44 => gd t42 true (idv t30) fun t45 => gd t42 true (cl (f45 t44 t45)) fun t46 => gd t42 true (nei .i64 t46 (.int .i64 0)) fun t47 => pk t42 t47 (.bool false) fun t48 => rt t48 ) ( fa 3 t5 fun t50 => ld t50 fun t51 => fa 1 t5 fun t52 => ld t52 fun t53 => fa 2 t5 fun t54 => ld t54 fun t55 => cl (f51 t19 t51 t53 t55) fun t56 => cl (f40 t19 t16) fun t60 => ex 0 t60 fun t61 => ex 1 t60 fun t62 => eqi .i64 t62 (.int .i64 0) fun t64 => gd t64 true (idv t61) fun t66 => gd t64 true (idv t32) fun t67 => gd t64 true (idv t30) fun t68 => gd t64 true (cl (f46 t67 t68)) fun t69 => gd t64 true (cl (f49 t66 t69)) fun t70 => pk t64 t70 (.bool false) fun t71 => rt t71 ) )
def f58 (t0 : Value) : M := dr <| idv t0 fun t3 => nc t3 fun t4 => fa 0 t4 fun t5 => ld t5 fun t6 => idv t0 fun t8 => nc t8 fun t9 => fa 0 t9 fun t10 => ld t10 fun t11 => sm Tryz.prog (Builtin.append_ #[100, 100] 100 #[(.slice none 0 0), t6]) fun t7 => kp (Kld t10 t11) <| sm Tryz.prog (Builtin.append_ #[100, 100] 100 #[(.slice none 0 0), t11]) fun t12 => smr Tryz.prog (Instr.build 151 #[(0, t7), (1, t12)]) fun t13 => bx 151 t13 fun t14 => idv t14 fun t2 => rt t2
theorem s58 (t0 : Value) (w : World) (Q : Value → World → Prop) (h : f58 t0 w Q) : Calls Tryz.prog 58 #[t0] w (Rt Q) := by
  refine calls_of (l := [t0]) Tryz.func58 rfl Tryz.ntmps58 (Nat.le_of_ble_eq_true rfl) ?_
  unfold f58 at h
  refine wp_seq ?_
  refine L_region ?_
  refine L_as ?_
  refine L_nil ?_
  refine E_n ?_
  refine wp_seq ?_
  refine D_region (by decide +kernel) 13 rfl ?_
  replace h := dr_e h
  refine G_p 0 rfl (by decide +kernel) (Y_mv h) ?_
  intro v h
  refine G_p 1 rfl (by decide +kernel) (Y_nc h) ?_
  intro v h
  refine G_p 2 rfl (by decide +kernel) (Y_fa fo102_0 h) ?_
  intro v h
  refine G_r _ 3 rfl (by decide +kernel) (R_ld sc100 h) ?_
  intro v h
  refine G_p 5 rfl (by decide +kernel) (Y_mv h) ?_
  intro v h
  refine G_p 6 rfl (by decide +kernel) (Y_nc h) ?_
  intro v h
  refine G_p 7 rfl (by decide +kernel) (Y_fa fo102_0 h) ?_
  intro v h
  refine G_r _ 8 rfl (by decide +kernel) (R_ld sc100 h) ?_
  intro v h
  refine G_e 4 rfl (by decide +kernel) (N_bi rfl h ?_)
  intro v w h
  refine ⟨keepF_cons (kp_1 h) (keepF_dep [3] (by decide +kernel) rfl keepF_nil), ?_⟩
  replace h := (kp_2 h)
  refine G_e 9 rfl (by decide +kernel) (N_bi rfl h ?_)
  intro v w h
  refine ⟨keepF_dep [8] (by decide +kernel) rfl (keepF_dep [4, 3] (by decide +kernel) rfl keepF_nil), ?_⟩
  refine G_r _ 10 rfl (by decide +kernel) (R_bld h) ?_
  intro v h
  refine G_e 11 rfl (by decide +kernel) (P_bx h ?_)
  intro v w h
  refine ⟨keepF_dep [10] (by decide +kernel) rfl (keepF_dep [10, 9, 8] (by decide +kernel) rfl (keepF_dep [10, 4, 3] (by decide +kernel) rfl keepF_nil)), ?_⟩
  refine G_p 12 rfl (by decide +kernel) (Y_as h) ?_
  intro v h
  refine G_done (by decide +kernel) ?_
  refine E_n ?_
  refine C_ret ?_
  show bodyPost Tryz.prog Tryz.f58 (Rt Q) .ret _ _
  exact post_tmps (ts := [2]) (.inr rfl) rfl h

def f54 (t0 : Value) : M := cl (f17 t0) fun t8 => cl (f41 t0) fun t10 => smr Tryz.prog (Instr.build 96 #[(0, t8), (2, t10)]) fun t11 => bx 96 t11 fun t12 => nc t12 fun t15 => fa 0 t15 fun t16 => ld t16 fun t17 => cl (f16 t17) fun t18 => ex 0 t18 fun t19 => ex 1 t18 fun t20 => nc t12 fun t23 => fa 1 t23 fun t24 => st t24 t19 <| nc t12 fun t27 => fa 2 t27 fun t28 => ld t28 fun t29 => cl (f58 t29) fun t30 => nc t12 fun t31 => fa 3 t31 fun t32 => st t32 t30 <| eqi .i64 t20 (.int .i64 0) fun t35 => gd t35 true (idv t19) fun t37 => gd t35 true (smr Tryz.prog (do eqGuard .neq 25 (.tmp 37) (.const (.pointer none)) t37 (.pointer none); binOp .neq 25 t37 (.pointer none))) fun t38 => pk t35 t38 (.bool false) fun t39 => rt (.tuple #[t12, t39])
theorem s54 (t0 : Value) (w : World) (Q : Value → World → Prop) (h : f54 t0 w Q) : Calls Tryz.prog 54 #[t0] w (Rt Q) := by
  refine calls_of (l := [t0]) Tryz.func54 rfl Tryz.ntmps54 (Nat.le_of_ble_eq_true rfl) ?_
  unfold f54 at h
  refine wp_seq ?_
  refine L_region ?_
  refine L_as ?_
  refine L_as ?_
  refine L_nil ?_
  refine E_n ?_
  refine wp_seq ?_
  refine L_region ?_
  refine L_mv ?_
  refine L_u (N_cl Tryz.func17 rfl nn17 (fun w Q h => s17 _ w Q h) h) ?_
  intro v w h
  refine L_mv ?_
  refine L_u (N_cl Tryz.func41 rfl nn41 (fun w Q h => s41 _ w Q h) h) ?_
  intro v w h
  refine L_u (N_bld h) ?_
  intro v w h
  refine L_u (P_bx h) ?_
  intro v w h
  refine L_as ?_
  refine L_nil ?_
  refine E_n ?_
  refine wp_seq ?_
  refine L_region ?_
  refine L_mv ?_
  refine L_u (P_nc h) ?_
  intro v w h
  refine L_u (P_fa fo96_0 h) ?_
  intro v w h
  refine L_u (P_ld sc29 h) ?_
  intro v w h
  refine L_u (N_cl Tryz.func16 rfl nn16 (fun w Q h => s16 _ w Q h) h) ?_
  intro v w h
  refine L_mv ?_
  refine L_u (P_ex h) ?_
  intro v w h
  refine L_u (P_ex h) ?_
  intro v w h
  refine L_as ?_
  refine L_as ?_
  refine L_nil ?_
  refine E_n ?_
  refine wp_seq ?_
  refine L_region ?_
  refine L_mv ?_
  refine L_mv ?_
  refine L_u (P_nc h) ?_
  intro v w h
  refine L_u (P_fa fo96_1 h) ?_
  intro v w h
  refine L_u (P_st on25 h) ?_
  intro w h
  refine L_nil ?_
  refine E_n ?_
  refine wp_seq ?_
  refine L_region ?_
  refine L_mv ?_
  refine L_mv ?_
  refine L_u (P_nc h) ?_
  intro v w h
  refine L_u (P_fa fo96_2 h) ?_
  intro v w h
  refine L_u (P_ld sc67 h) ?_
  intro v w h
  refine L_u (N_cl Tryz.func58 rfl nn58 (fun w Q h => s58 _ w Q h) h) ?_
  intro v w h
  refine L_u (P_nc h) ?_
  intro v w h
  refine L_u (P_fa fo96_3 h) ?_
  intro v w h
  refine L_u (P_st on94 h) ?_
  intro w h
  refine L_nil ?_
  refine E_n ?_
  refine wp_seq ?_
  refine L_region ?_
  refine L_mv ?_
  refine L_mv ?_
  refine L_u (P_eqi h) ?_
  intro v w h
  refine L_mv ?_
  refine L_g (t := 36) h rfl rfl (fun c h => P_mv h c) ?_
  intro v w h
  refine L_g (t := 36) h rfl rfl (fun c h => P_smr rfl h c) ?_
  intro v w h
  refine L_u (P_pk h) ?_
  intro v w h
  refine L_as ?_
  refine L_as ?_
  refine L_nil ?_
  refine E_n ?_
  refine C_ret ?_
  show bodyPost Tryz.prog Tryz.f54 (Rt Q) .ret _ _
  exact post_tmps (ts := [2, 3]) (.inr rfl) rfl h

def f55 (t0 : Value) : M := lnl t0 fun t5 => mnm t5 (.int .i64 200) fun t6 => sll 3 t0 none (some t6) fun t7 => rt t7
theorem s55 (t0 : Value) (w : World) (Q : Value → World → Prop) (h : f55 t0 w Q) : Calls Tryz.prog 55 #[t0] w (Rt Q) := by
  refine calls_of (l := [t0]) Tryz.func55 rfl Tryz.ntmps55 (Nat.le_of_ble_eq_true rfl) ?_
  unfold f55 at h
  refine wp_seq ?_
  refine L_region ?_
  refine L_as ?_
  refine L_nil ?_
  refine E_n ?_
  refine wp_seq ?_
  refine L_region ?_
  refine L_mv ?_
  refine L_mv ?_
  refine L_u (P_lnl is86 h) ?_
  intro v w h
  refine L_u (P_mnm (t := 0) h) ?_
  intro v w h
  refine L_u (P_sll se86 h) ?_
  intro v w h
  refine L_as ?_
  refine L_nil ?_
  refine E_n ?_
  refine C_ret ?_
  show bodyPost Tryz.prog Tryz.f55 (Rt Q) .ret _ _
  exact post_tmps (ts := [2]) (.inr rfl) rfl h

def f56 (t0 : Value) : M := bx 92 t0 fun t1 => fa 0 t1 fun t3 => ld t3 fun t4 => cv .u64 t4 fun t5 => re .u64 t5 (.int .u64 8) fun t6 => cv .i64 t6 fun t7 => rt t7
theorem s56 (t0 : Value) (w : World) (Q : Value → World → Prop) (h : f56 t0 w Q) : Calls Tryz.prog 56 #[t0] w (Rt Q) := by
  refine calls_of (l := [t0]) Tryz.func56 rfl Tryz.ntmps56 (Nat.le_of_ble_eq_true rfl) ?_
  unfold f56 at h
  refine wp_seq ?_
  refine L_region ?_
  refine L_u (P_bx h) ?_
  intro v w h
  refine L_as ?_
  refine L_nil ?_
  refine E_n ?_
  refine wp_seq ?_
  refine L_region ?_
  refine L_u (P_fa fo92_0 h) ?_
  intro v w h
  refine L_u (P_ld sc3 h) ?_
  intro v w h
  refine L_u (P_cv ai3 in37 h) ?_
  intro v w h
  refine L_u (P_re h) ?_
  intro v w h
  refine L_u (P_cv ai37 in3 h) ?_
  intro v w h
  refine L_as ?_
  refine L_nil ?_
  refine E_n ?_
  refine C_ret ?_
  show bodyPost Tryz.prog Tryz.f56 (Rt Q) .ret _ _
  exact post_tmps (ts := [2]) (.inr rfl) rfl h

def f105 (t0 : Value) : M := bx 110 t0 fun t1 => al 110 #[(.int .u8 0), (.int .u8 0), (.int .u8 0), (.int .u8 0), (.int .u8 0), (.int .u8 0), (.int .u8 0), (.int .u8 0), (.int .u8 0), (.int .u8 0), (.int .u8 0), (.int .u8 0), (.int .u8 0), (.int .u8 0), (.int .u8 0), (.int .u8 0), (.int .u8 0), (.int .u8 0), (.int .u8 0), (.int .u8 0), (.string ⟨#[]⟩), (.map none)] fun t2 => fa 21 t1 fun t3 => ld t3 fun t4 => cc Tryz.prog 127 #[t4] fun t5 => fa 21 t1 fun t6 => st t6 t5 <| ldn 22 t1 fun t7 => stn 22 t2 t7 <| ldn 22 t2 fun r0 => rt r0
theorem s105 (t0 : Value) (w : World) (Q : Value → World → Prop) (h : f105 t0 w Q) : Calls Tryz.prog 105 #[t0] w (Rt Q) := by
  refine calls_of (l := [t0]) Tryz.func105 rfl Tryz.ntmps105 (Nat.le_of_ble_eq_true rfl) ?_
  unfold f105 at h
  refine wp_seq ?_
  refine L_region ?_
  refine L_u (P_bx h) ?_
  intro v w h
  refine L_u (P_al ze110 rfl h) ?_
  intro v w h
  refine L_nil ?_
  refine E_n ?_
  refine wp_seq ?_
  refine L_region ?_
  refine L_u (P_fa fo110_2 h) ?_
  intro v w h
  refine L_u (P_ld sc107 h) ?_
  intro v w h
  refine L_u (N_cc Tryz.func127 rfl nn127 h) ?_
  intro v w h
  refine L_u (P_fa fo110_2 h) ?_
  intro v w h
  refine L_u (P_st on107 h) ?_
  intro w h
  refine L_nil ?_
  refine E_n ?_
  refine wp_seq ?_
  refine L_region ?_
  refine L_u (P_ldn ag110 h) ?_
  intro v w h
  refine L_u (P_stn ag110 h) ?_
  intro w h
  refine L_nil ?_
  refine E_n ?_
  refine C_ret ?_
  show bodyPost Tryz.prog Tryz.f105 (Rt Q) .ret _ _
  refine post_res [.cell 2 110] (.inr rfl) rfl ?_
  refine res_ldn 2 110 ag110 (by exact h) (fun _ hr0 h => ?_)
  exact ⟨[_], ⟨hr0, trivial⟩, h⟩

def f64 (t0 : Value) : M := cl (f70 t0) fun t4 => nei .i64 t4 (.int .i64 0) fun t5 => cnd t5 ( rt (.int .i64 0) ) ( dr <| idv t0 fun t6 => idv t0 fun t7 => nc t7 fun t8 => fa 23 t8 fun t9 => ld t9 fun t10 => idv t0 fun t11 => nc t11 fun t12 => fa 1 t12 fun t13 => ldn 22 t13 fun t14 => cl (f105 t14) fun t15 => kp (Kld t9 t10) <| sm Tryz.prog (Instr.buildSlice 111 1 #[(0, t15)]) fun t16 => kp (Kld t9 t10) <| sm Tryz.prog (Builtin.append_ #[111, 111] 111 #[t10, t16]) fun t17 => nc t6 fun t18 => fa 23 t18 fun t19 => st t19 t17 <| nc t0 fun t21 => fa 23 t21 fun t22 => ld t22 fun t23 => lnl t23 fun t24 => su .i64 t24 (.int .i64 1) fun t25 => rt t25 )
theorem s64 (t0 : Value) (w : World) (Q : Value → World → Prop) (h : f64 t0 w Q) : Calls Tryz.prog 64 #[t0] w (Rt Q) := by
  refine calls_of (l := [t0]) Tryz.func64 rfl Tryz.ntmps64 (Nat.le_of_ble_eq_true rfl) ?_
  unfold f64 at h
  refine wp_seq ?_
  refine L_region ?_
  refine L_as ?_
  refine L_nil ?_
  refine E_n ?_
  refine wp_seq ?_
  refine wp_seq ?_
  refine L_region ?_
  refine L_mv ?_
  refine L_u (N_cl Tryz.func70 rfl nn70 (fun w Q h => s70 _ w Q h) h) ?_
  intro v w h
  refine L_u (P_nei h) ?_
  intro v w h
  refine L_nil ?_
  refine E_n ?_
  refine C_cnd h (fun h => ?_) (fun h => ?_)
  · refine wp_seq ?_
    refine L_region ?_
    refine L_as ?_
    refine L_nil ?_
    refine E_n ?_
    refine C_ret ?_
    show bodyPost Tryz.prog Tryz.f64 (Rt Q) .ret _ _
    exact post_tmps (ts := [2]) (.inr rfl) rfl h
  · refine C_skip ?_
    refine E_n ?_
    refine wp_seq ?_
    refine D_region (by decide +kernel) 15 rfl ?_
    replace h := dr_e h
    refine G_p 0 rfl (by decide +kernel) (Y_mv h) ?_
    intro v h
    refine G_p 1 rfl (by decide +kernel) (Y_mv h) ?_
    intro v h
    refine G_p 2 rfl (by decide +kernel) (Y_nc h) ?_
    intro v h
    refine G_p 3 rfl (by decide +kernel) (Y_fa fo113_2 h) ?_
    intro v h
    refine G_r _ 4 rfl (by decide +kernel) (R_ld sc111 h) ?_
    intro v h
    refine G_p 5 rfl (by decide +kernel) (Y_mv h) ?_
    intro v h
    refine G_p 6 rfl (by decide +kernel) (Y_nc h) ?_
    intro v h
    refine G_p 7 rfl (by decide +kernel) (Y_fa fo113_1 h) ?_
    intro v h
    refine G_r _ 8 rfl (by decide +kernel) (R_ldn ag110 h) ?_
    intro v h
    refine G_e 9 rfl (by decide +kernel) (N_cl Tryz.func105 rfl nn105 (fun w Q h => s105 _ w Q h) h ?_)
    intro v w h
    refine ⟨keepF_dep [8] (by decide +kernel) rfl (keepF_cons (kp_1 h) keepF_nil), ?_⟩
    replace h := (kp_2 h)
    refine G_e 10 rfl (by decide +kernel) (N_bsl h ?_)
    intro v w h
    refine ⟨keepF_dep [9, 8] (by decide +kernel) rfl (keepF_cons (kp_1 h) keepF_nil), ?_⟩
    replace h := (kp_2 h)
    refine G_e 11 rfl (by decide +kernel) (N_bi rfl h ?_)
    intro v w h
    refine ⟨keepF_dep [9, 8] (by decide +kernel) rfl (keepF_dep [4] (by decide +kernel) rfl keepF_nil), ?_⟩
    refine G_p 12 rfl (by decide +kernel) (Y_nc h) ?_
    intro v h
    refine G_p 13 rfl (by decide +kernel) (Y_fa fo113_2 h) ?_
    intro v h
    refine G_e 14 rfl (by decide +kernel) (P_st on111 h ?_)
    intro w h
    refine ⟨keepF_dep [8] (by decide +kernel) rfl (keepF_dep [4] (by decide +kernel) rfl keepF_nil), ?_⟩
    refine G_done (by decide +kernel) ?_
    refine E_n ?_
    refine wp_seq ?_
    refine L_region ?_
    refine L_mv ?_
    refine L_u (P_nc h) ?_
    intro v w h
    refine L_u (P_fa fo113_2 h) ?_
    intro v w h
    refine L_u (P_ld sc111 h) ?_
    intro v w h
    refine L_u (P_lnl is111 h) ?_
    intro v w h
    refine L_u (P_su h) ?_
    intro v w h
    refine L_as ?_
    refine L_nil ?_
    refine E_n ?_
    refine C_ret ?_
    show bodyPost Tryz.prog Tryz.f64 (Rt Q) .ret _ _
    exact post_tmps (ts := [2]) (.inr rfl) rfl h

def f65 (t0 t1 : Value) : M := cl (f74 t0 t1) fun t11 => nei .i64 t11 (.int .i64 0) fun t13 => cnd t13 ( rt (.tuple #[(.string ⟨#[]⟩), t11]) ) ( nc t0 fun t17 => fa 1 t17 fun t18 => fa 21 t18 fun t19 => ld t19 fun t20 => smr Tryz.prog (Instr.lookup 107 t20 t1 true) fun t22 => ex 0 t22 fun t23 => ex 1 t22 fun t24 => cnd t24 ( rt (.tuple #[t23, (.int .i64 0)]) ) ( nc t0 fun t28 => fa 0 t28 fun t29 => ld t29 fun t30 => cl (f27 t30 t1) fun t32 => ex 0 t32 fun t33 => ex 1 t32 fun t34 => rt (.tuple #[t33, t34]) ) )
theorem s65 (t0 t1 : Value) (w : World) (Q : Value → World → Prop) (h : f65 t0 t1 w Q) : Calls Tryz.prog 65 #[t0, t1] w (Rt Q) := by
  refine calls_of (l := [t0, t1]) Tryz.func65 rfl Tryz.ntmps65 (Nat.le_of_ble_eq_true rfl) ?_
  unfold f65 at h
  refine wp_seq ?_
  refine L_region ?_
  refine L_as ?_
  refine L_as ?_
  refine L_nil ?_
  refine E_n ?_
  refine wp_seq ?_
  refine wp_seq ?_
  refine L_region ?_
  refine L_mv ?_
  refine L_mv ?_
  refine L_u (N_cl Tryz.func74 rfl nn74 (fun w Q h => s74 _ _ w Q h) h) ?_
  intro v w h
  refine L_as ?_
  refine L_nil ?_
  refine E_n ?_
  refine wp_seq ?_
  refine L_region ?_
  refine L_mv ?_
  refine L_u (P_nei h) ?_
  intro v w h
  refine L_nil ?_
  refine E_n ?_
  refine C_cnd h (fun h => ?_) (fun h => ?_)
  · refine wp_seq ?_
    refine L_region ?_
    refine L_mv ?_
    refine L_as ?_
    refine L_as ?_
    refine L_nil ?_
    refine E_n ?_
    refine C_ret ?_
    show bodyPost Tryz.prog Tryz.f65 (Rt Q) .ret _ _
    exact post_tmps (ts := [4, 5]) (.inr rfl) rfl h
  · refine C_skip ?_
    refine E_n ?_
    refine wp_seq ?_
    refine wp_seq ?_
    refine L_region ?_
    refine L_mv ?_
    refine L_u (P_nc h) ?_
    intro v w h
    refine L_u (P_fa fo113_1 h) ?_
    intro v w h
    refine L_u (P_fa fo110_2 h) ?_
    intro v w h
    refine L_u (P_ld sc107 h) ?_
    intro v w h
    refine L_mv ?_
    refine L_u (P_smr rfl h) ?_
    intro v w h
    refine L_mv ?_
    refine L_u (P_ex h) ?_
    intro v w h
    refine L_u (P_ex h) ?_
    intro v w h
    refine L_as ?_
    refine L_as ?_
    refine L_nil ?_
    refine E_n ?_
    refine wp_seq ?_
    refine L_region ?_
    refine L_mv ?_
    refine L_nil ?_
    refine E_n ?_
    refine C_cnd h (fun h => ?_) (fun h => ?_)
    · refine wp_seq ?_
      refine L_region ?_
      refine L_mv ?_
      refine L_as ?_
      refine L_as ?_
      refine L_nil ?_
      refine E_n ?_
      refine C_ret ?_
      show bodyPost Tryz.prog Tryz.f65 (Rt Q) .ret _ _
      exact post_tmps (ts := [4, 5]) (.inr rfl) rfl h
    · refine C_skip ?_
      refine E_n ?_
      refine wp_seq ?_
      refine L_region ?_
      refine L_mv ?_
      refine L_u (P_nc h) ?_
      intro v w h
      refine L_u (P_fa fo113_0 h) ?_
      intro v w h
      refine L_u (P_ld sc29 h) ?_
      intro v w h
      refine L_mv ?_
      refine L_u (N_cl Tryz.func27 rfl nn27 (fun w Q h => s27 _ _ w Q h) h) ?_
      intro v w h
      refine L_u (P_ex h) ?_
      intro v w h
      refine L_u (P_ex h) ?_
      intro v w h
      refine L_as ?_
      refine L_as ?_
      refine L_nil ?_
      refine E_n ?_
      refine C_ret ?_
      show bodyPost Tryz.prog Tryz.f65 (Rt Q) .ret _ _
      exact post_tmps (ts := [4, 5]) (.inr rfl) rfl h

def f66 (t0 t1 : Value) : M := cl (f70 t0) fun t7 => nei .i64 t7 (.int .i64 0) fun t9 => cnd t9 ( rt t7 ) ( lt .i64 t1 (.int .i64 0) fun t12 => gd t12 false (idv t1) fun t14 => gd t12 false (idv t0) fun t15 => gd t12 false (nc t15) fun t16 => gd t12 false (fa 23 t16) fun t17 => gd t12 false (ld t17) fun t18 => gd t12 false (lnl t18) fun t19 => gd t12 false (ge .i64 t14 t19) fun t20 => pk t12 (.bool true) t20 fun t21 => cnd t21 ( rt (.int .i64 7) ) ( dr <| idv t0 fun t22 => idv t0 fun t23 => idv t0 fun t24 => nc t24 fun t25 => fa 23 t25 fun t26 => ld t26 fun t27 => idv t1 fun t28 => ia 22 t27 t28 fun t29 => ldn 22 t29 fun t30 => idv t0 fun t32 => nc t32 fun t33 => fa 23 t33 fun t34 => ld t34 fun t35 => idv t1 fun t36 => ad .i64 t36 (.int .i64 1) fun t37 => sll 22 t35 none (some t37) fun t38 => cl (f105 t30) fun t31 => kp (Kld t34 t35) <| nc t22 fun t39 => fa 1 t39 fun t40 => stn 22 t40 t31 <| nc t23 fun t41 => fa 23 t41 fun t42 => st t42 t38 <| rt (.int .i64 0) ) )
theorem s66 (t0 t1 : Value) (w : World) (Q : Value → World → Prop) (h : f66 t0 t1 w Q) : Calls Tryz.prog 66 #[t0, t1] w (Rt Q) := by
  refine calls_of (l := [t0, t1]) Tryz.func66 rfl Tryz.ntmps66 (Nat.le_of_ble_eq_true rfl) ?_
  unfold f66 at h
  refine wp_seq ?_
  refine L_region ?_
  refine L_as ?_
  refine L_nil ?_
  refine E_n ?_
  refine wp_seq ?_
  refine wp_seq ?_
  refine L_region ?_
  refine L_mv ?_
  refine L_u (N_cl Tryz.func70 rfl nn70 (fun w Q h => s70 _ w Q h) h) ?_
  intro v w h
  refine L_as ?_
  refine L_nil ?_
  refine E_n ?_
  refine wp_seq ?_
  refine L_region ?_
  refine L_mv ?_
  refine L_u (P_nei h) ?_
  intro v w h
  refine L_nil ?_
  refine E_n ?_
  refine C_cnd h (fun h => ?_) (fun h => ?_)
  · refine wp_seq ?_
    refine L_region ?_
    refine L_mv ?_
    refine L_as ?_
    refine L_nil ?_
    refine E_n ?_
    refine C_ret ?_
    show bodyPost Tryz.prog Tryz.f66 (Rt Q) .ret _ _
    exact post_tmps (ts := [4]) (.inr rfl) rfl h
  · refine C_skip ?_
    refine E_n ?_
    refine wp_seq ?_
    refine wp_seq ?_
    refine L_region ?_
    refine L_mv ?_
    refine L_u (P_lt h) ?_
    intro v w h
    refine L_mv ?_
    refine L_g (t := 13) h rfl rfl (fun c h => P_mv h c) ?_
    intro v w h
    refine L_g (t := 13) h rfl rfl (fun c h => P_mv h c) ?_
    intro v w h
    refine L_g (t := 13) h rfl rfl (fun c h => P_nc h c) ?_
    intro v w h
    refine L_g (t := 13) h rfl rfl (fun c h => P_fa fo113_2 h c) ?_
    intro v w h
    refine L_g (t := 13) h rfl rfl (fun c h => P_ld sc111 h c) ?_
    intro v w h
    refine L_g (t := 13) h rfl rfl (fun c h => P_lnl is111 h c) ?_
    intro v w h
    refine L_g (t := 13) h rfl rfl (fun c h => P_ge h c) ?_
    intro v w h
    refine L_u (P_pk h) ?_
    intro v w h
    refine L_nil ?_
    refine E_n ?_
    refine C_cnd h (fun h => ?_) (fun h => ?_)
    · refine wp_seq ?_
      refine L_region ?_
      refine L_as ?_
      refine L_nil ?_
      refine E_n ?_
      refine C_ret ?_
      show bodyPost Tryz.prog Tryz.f66 (Rt Q) .ret _ _
      exact post_tmps (ts := [4]) (.inr rfl) rfl h
    · refine C_skip ?_
      refine E_n ?_
      refine wp_seq ?_
      refine D_region (by decide +kernel) 23 rfl ?_
      replace h := dr_e h
      refine G_p 0 rfl (by decide +kernel) (Y_mv h) ?_
      intro v h
      refine G_p 1 rfl (by decide +kernel) (Y_mv h) ?_
      intro v h
      refine G_p 2 rfl (by decide +kernel) (Y_mv h) ?_
      intro v h
      refine G_p 3 rfl (by decide +kernel) (Y_nc h) ?_
      intro v h
      refine G_p 4 rfl (by decide +kernel) (Y_fa fo113_2 h) ?_
      intro v h
      refine G_r _ 5 rfl (by decide +kernel) (R_ld sc111 h) ?_
      intro v h
      refine G_p 6 rfl (by decide +kernel) (Y_mv h) ?_
      intro v h
      refine G_p 7 rfl (by decide +kernel) (Y_ia se111 h) ?_
      intro v h
      refine G_r _ 8 rfl (by decide +kernel) (R_ldn ag110 h) ?_
      intro v h
      refine G_p 10 rfl (by decide +kernel) (Y_mv h) ?_
      intro v h
      refine G_p 11 rfl (by decide +kernel) (Y_nc h) ?_
      intro v h
      refine G_p 12 rfl (by decide +kernel) (Y_fa fo113_2 h) ?_
      intro v h
      refine G_r _ 13 rfl (by decide +kernel) (R_ld sc111 h) ?_
      intro v h
      refine G_p 14 rfl (by decide +kernel) (Y_mv h) ?_
      intro v h
      refine G_p 15 rfl (by decide +kernel) (Y_ad h) ?_
      intro v h
      refine G_p 16 rfl (by decide +kernel) (Y_sll se111 h) ?_
      intro v h
      refine G_e 9 rfl (by decide +kernel) (N_cl Tryz.func105 rfl nn105 (fun w Q h => s105 _ w Q h) h ?_)
      intro v w h
      refine ⟨keepF_cons (kp_1 h) (keepF_dep [8] (by decide +kernel) rfl (keepF_dep [8, 7, 5] (by decide +kernel) rfl keepF_nil)), ?_⟩
      replace h := (kp_2 h)
      refine G_p 17 rfl (by decide +kernel) (Y_nc h) ?_
      intro v h
      refine G_p 18 rfl (by decide +kernel) (Y_fa fo113_1 h) ?_
      intro v h
      refine G_e 19 rfl (by decide +kernel) (P_stn ag110 h ?_)
      intro w h
      refine ⟨keepF_dep [13] (by decide +kernel) rfl (keepF_dep [8] (by decide +kernel) rfl (keepF_dep [5] (by decide +kernel) rfl keepF_nil)), ?_⟩
      refine G_p 20 rfl (by decide +kernel) (Y_nc h) ?_
      intro v h
      refine G_p 21 rfl (by decide +kernel) (Y_fa fo113_2 h) ?_
      intro v h
      refine G_e 22 rfl (by decide +kernel) (P_st on111 h ?_)
      intro w h
      refine ⟨keepF_dep [13] (by decide +kernel) rfl (keepF_dep [8] (by decide +kernel) rfl (keepF_dep [5] (by decide +kernel) rfl keepF_nil)), ?_⟩
      refine G_done (by decide +kernel) ?_
      refine E_n ?_
      refine wp_seq ?_
      refine L_region ?_
      refine L_as ?_
      refine L_nil ?_
      refine E_n ?_
      refine C_ret ?_
      show bodyPost Tryz.prog Tryz.f66 (Rt Q) .ret _ _
      exact post_tmps (ts := [4]) (.inr rfl) rfl h

def f67 (t0 t1 t2 : Value) : M := cl (f74 t0 t1) fun t10 => nei .i64 t10 (.int .i64 0) fun t12 => cnd t12 ( rt t10 ) ( lns t2 fun t15 => nei .i64 t15 (.int .i64 256) fun t16 => cnd t16 ( rt (.int .i64 1) ) ( nc t0 fun t18 => fa 1 t18 fun t19 => fa 21 t19 fun t20 => ld t20 fun t21 => smu Tryz.prog (Instr.mapUpdate 107 t21 t1 t2) <| rt (.int .i64 0) ) )
theorem s67 (t0 t1 t2 : Value) (w : World) (Q : Value → World → Prop) (h : f67 t0 t1 t2 w Q) : Calls Tryz.prog 67 #[t0, t1, t2] w (Rt Q) := by
  refine calls_of (l := [t0, t1, t2]) Tryz.func67 rfl Tryz.ntmps67 (Nat.le_of_ble_eq_true rfl) ?_
  unfold f67 at h
  refine wp_seq ?_
  refine L_region ?_
  refine L_as ?_
  refine L_nil ?_
  refine E_n ?_
  refine wp_seq ?_
  refine wp_seq ?_
  refine L_region ?_
  refine L_mv ?_
  refine L_mv ?_
  refine L_u (N_cl Tryz.func74 rfl nn74 (fun w Q h => s74 _ _ w Q h) h) ?_
  intro v w h
  refine L_as ?_
  refine L_nil ?_
  refine E_n ?_
  refine wp_seq ?_
  refine L_region ?_
  refine L_mv ?_
  refine L_u (P_nei h) ?_
  intro v w h
  refine L_nil ?_
  refine E_n ?_
  refine C_cnd h (fun h => ?_) (fun h => ?_)
  · refine wp_seq ?_
    refine L_region ?_
    refine L_mv ?_
    refine L_as ?_
    refine L_nil ?_
    refine E_n ?_
    refine C_ret ?_
    show bodyPost Tryz.prog Tryz.f67 (Rt Q) .ret _ _
    exact post_tmps (ts := [6]) (.inr rfl) rfl h
  · refine C_skip ?_
    refine E_n ?_
    refine wp_seq ?_
    refine wp_seq ?_
    refine L_region ?_
    refine L_mv ?_
    refine L_u (P_lns st9 h) ?_
    intro v w h
    refine L_u (P_nei h) ?_
    intro v w h
    refine L_nil ?_
    refine E_n ?_
    refine C_cnd h (fun h => ?_) (fun h => ?_)
    · refine wp_seq ?_
      refine L_region ?_
      refine L_as ?_
      refine L_nil ?_
      refine E_n ?_
      refine C_ret ?_
      show bodyPost Tryz.prog Tryz.f67 (Rt Q) .ret _ _
      exact post_tmps (ts := [6]) (.inr rfl) rfl h
    · refine C_skip ?_
      refine E_n ?_
      refine wp_seq ?_
      refine L_region ?_
      refine L_mv ?_
      refine L_u (P_nc h) ?_
      intro v w h
      refine L_u (P_fa fo113_1 h) ?_
      intro v w h
      refine L_u (P_fa fo110_2 h) ?_
      intro v w h
      refine L_u (P_ld sc107 h) ?_
      intro v w h
      refine L_mv ?_
      refine L_mv ?_
      refine L_u (P_smu rfl h) ?_
      intro w h
      refine L_nil ?_
      refine E_n ?_
      refine wp_seq ?_
      refine L_region ?_
      refine L_as ?_
      refine L_nil ?_
      refine E_n ?_
      refine C_ret ?_
      show bodyPost Tryz.prog Tryz.f67 (Rt Q) .ret _ _
      exact post_tmps (ts := [6]) (.inr rfl) rfl h

def f68 (t0 t1 : Value) : M := cl (f70 t0) fun t7 => nei .i64 t7 (.int .i64 0) fun t9 => cnd t9 ( rt t7 ) ( lns t1 fun t12 => gt .i64 t12 (.int .i64 236) fun t13 => cnd t13 ( rt (.int .i64 3) ) ( lns t1 fun t17 => su .i64 (.int .i64 236) t17 fun t18 => cl (f73 t18) fun t19 => cat t1 t19 fun t20 => nc t0 fun t21 => fa 1 t21 fun t22 => fa 20 t22 fun t23 => st t23 t20 <| rt (.int .i64 0) ) )
theorem s68 (t0 t1 : Value) (w : World) (Q : Value → World → Prop) (h : f68 t0 t1 w Q) : Calls Tryz.prog 68 #[t0, t1] w (Rt Q) := by
  refine calls_of (l := [t0, t1]) Tryz.func68 rfl Tryz.ntmps68 (Nat.le_of_ble_eq_true rfl) ?_
  unfold f68 at h
  refine wp_seq ?_
  refine L_region ?_
  refine L_as ?_
  refine L_nil ?_
  refine E_n ?_
  refine wp_seq ?_
  refine wp_seq ?_
  refine L_region ?_
  refine L_mv ?_
  refine L_u (N_cl Tryz.func70 rfl nn70 (fun w Q h => s70 _ w Q h) h) ?_
  intro v w h
  refine L_as ?_
  refine L_nil ?_
  refine E_n ?_
  refine wp_seq ?_
  refine L_region ?_
  refine L_mv ?_
  refine L_u (P_nei h) ?_
  intro v w h
  refine L_nil ?_
  refine E_n ?_
  refine C_cnd h (fun h => ?_) (fun h => ?_)
  · refine wp_seq ?_
    refine L_region ?_
    refine L_mv ?_
    refine L_as ?_
    refine L_nil ?_
    refine E_n ?_
    refine C_ret ?_
    show bodyPost Tryz.prog Tryz.f68 (Rt Q) .ret _ _
    exact post_tmps (ts := [4]) (.inr rfl) rfl h
  · refine C_skip ?_
    refine E_n ?_
    refine wp_seq ?_
    refine wp_seq ?_
    refine L_region ?_
    refine L_mv ?_
    refine L_u (P_lns st9 h) ?_
    intro v w h
    refine L_u (P_gt h) ?_
    intro v w h
    refine L_nil ?_
    refine E_n ?_
    refine C_cnd h (fun h => ?_) (fun h => ?_)
    · refine wp_seq ?_
      refine L_region ?_
      refine L_as ?_
      refine L_nil ?_
      refine E_n ?_
      refine C_ret ?_
      show bodyPost Tryz.prog Tryz.f68 (Rt Q) .ret _ _
      exact post_tmps (ts := [4]) (.inr rfl) rfl h
    · refine C_skip ?_
      refine E_n ?_
      refine wp_seq ?_
      refine L_region ?_
      refine L_mv ?_
      refine L_mv ?_
      refine L_mv ?_
      refine L_u (P_lns st9 h) ?_
      intro v w h
      refine L_u (P_su h) ?_
      intro v w h
      refine L_u (N_cl Tryz.func73 rfl nn73 (fun w Q h => s73 _ w Q h) h) ?_
      intro v w h
      refine L_u (P_cat h) ?_
      intro v w h
      refine L_u (P_nc h) ?_
      intro v w h
      refine L_u (P_fa fo113_1 h) ?_
      intro v w h
      refine L_u (P_fa fo110_1 h) ?_
      intro v w h
      refine L_u (P_st on9 h) ?_
      intro w h
      refine L_nil ?_
      refine E_n ?_
      refine wp_seq ?_
      refine L_region ?_
      refine L_as ?_
      refine L_nil ?_
      refine E_n ?_
      refine C_ret ?_
      show bodyPost Tryz.prog Tryz.f68 (Rt Q) .ret _ _
      exact post_tmps (ts := [4]) (.inr rfl) rfl h

def f125 (t0 : Value) : M := dr <| idv t0 fun t3 => nc t3 fun t4 => fa 1 t4 fun t5 => fa 0 t5 fun t6 => sla 20 1 t6 none none fun t7 => smr Tryz.prog (convert 42 9 t7) fun t8 => idv t0 fun t9 => nc t9 fun t10 => fa 1 t10 fun t11 => fa 20 t11 fun t12 => ld t12 fun t13 => cat t8 t13 fun t14 => idv t14 fun t2 => rt t2
theorem s125 (t0 : Value) (w : World) (Q : Value → World → Prop) (h : f125 t0 w Q) : Calls Tryz.prog 125 #[t0] w (Rt Q) := by
  refine calls_of (l := [t0]) Tryz.func125 rfl Tryz.ntmps125 (Nat.le_of_ble_eq_true rfl) ?_
  unfold f125 at h
  refine wp_seq ?_
  refine L_region ?_
  refine L_as ?_
  refine L_nil ?_
  refine E_n ?_
  refine wp_seq ?_
  refine D_region (by decide +kernel) 13 rfl ?_
  replace h := dr_e h
  refine G_p 0 rfl (by decide +kernel) (Y_mv h) ?_
  intro v h
  refine G_p 1 rfl (by decide +kernel) (Y_nc h) ?_
  intro v h
  refine G_p 2 rfl (by decide +kernel) (Y_fa fo113_1 h) ?_
  intro v h
  refine G_p 3 rfl (by decide +kernel) (Y_fa fo110_0 h) ?_
  intro v h
  refine G_p 4 rfl (by decide +kernel) (Y_sla ae108 h) ?_
  intro v h
  refine G_r _ 5 rfl (by decide +kernel) (R_sm rfl h) ?_
  intro v h
  refine G_p 6 rfl (by decide +kernel) (Y_mv h) ?_
  intro v h
  refine G_p 7 rfl (by decide +kernel) (Y_nc h) ?_
  intro v h
  refine G_p 8 rfl (by decide +kernel) (Y_fa fo113_1 h) ?_
  intro v h
  refine G_p 9 rfl (by decide +kernel) (Y_fa fo110_1 h) ?_
  intro v h
  refine G_r _ 10 rfl (by decide +kernel) (R_ld sc9 h) ?_
  intro v h
  refine G_p 11 rfl (by decide +kernel) (Y_cat h) ?_
  intro v h
  refine G_p 12 rfl (by decide +kernel) (Y_as h) ?_
  intro v h
  refine G_done (by decide +kernel) ?_
  refine E_n ?_
  refine C_ret ?_
  show bodyPost Tryz.prog Tryz.f125 (Rt Q) .ret _ _
  exact post_tmps (ts := [2]) (.inr rfl) rfl h

def f104_j4 (self3 : Value → Value → Value → Value → Value → M) (t0_3 t3_2 t34_2 t35_2 t36_1 : Value) : M := ad .i64 t36_1 (.int .i64 1) fun t77 => self3 t0_3 t3_2 t34_2 t35_2 t77
def f104_b3 (j2 : Value → M) (self3 : Value → Value → Value → Value → Value → M) (t0_2 t3_1 t34_1 t35_1 t36 : Value) : M := lt .i64 t36 t35_1 fun t37 => cnd t37 ( ia 1 t34_1 t36 fun t38 => ld t38 fun t39 => nc t0_2 fun t42 => fa 0 t42 fun t43 => ld t43 fun t44 => cl (f27 t44 t39) fun t46 => ex 0 t46 fun t47 => ex 1 t46 fun t48 => nc t0_2 fun t50 => fa 1 t50 fun t51 => cl (f71 t51 t39) fun t53 => gd t53 true (idv t47) fun t55 => gd t53 true (idv t0_2) fun t56 => gd t53 true (nc t56) fun t57 => gd t53 true (fa 1 t57) fun t58 => gd t53 true (fa 21 t58) fun t59 => gd t53 true (ld t59) fun t60 => gd t53 true (idv t39) fun t61 => gd t53 true (smr Tryz.prog (Instr.lookup 107 t60 t61 false)) fun t62 => gd t53 true (nes t55 t62) fun t63 => pk t53 t63 (.bool false) fun t64 => jn (fun (j4 : Value → Value → Value → Value → Value → M) => cnd t64 ( nc t0_2 fun t68 => fa 1 t68 fun t69 => fa 21 t69 fun t70 => ld t70 fun t71 => smr Tryz.prog (Instr.lookup 107 t71 t39 false) fun t73 => smr Tryz.prog (Instr.build 48 #[(0, t39), (1, t73)]) fun t74 => sm Tryz.prog (Instr.buildSlice 49 1 #[(0, t74)]) fun t75 => sm Tryz.prog (Builtin.append_ #[49, 49] 49 #[t3_1, t75]) fun t76 => j4 t0_2 t76 t34_1 t35_1 t36 ) ( j4 t0_2 t3_1 t34_1 t35_1 t36 ) ) (f104_j4 self3) ) ( j2 t3_1 )
def f104_j2 (t3_3 : Value) : M := rt t3_3
def f104_j1 (t0_1 t3 : Value) : M := nc t0_1 fun t29 => fa 1 t29 fun t30 => fa 21 t30 fun t31 => ld t31 fun t32 => cc Tryz.prog 126 #[t32] fun t33 => cc Tryz.prog 92 #[t33] fun t34 => lnl t34 fun t35 => jn (fun (j2 : Value → M) => lo (fun _ _ _ _ _ => bot) (f104_b3 j2) (fun l => l t0_1 t3 t34 t35 (.int .i64 0)) ) (f104_j2)
def f104 (t0 : Value) : M := nc t0 fun t12 => fa 0 t12 fun t13 => ld t13 fun t14 => cl (f27 t14 (.int .i64 0)) fun t15 => ex 0 t15 fun t16 => ex 1 t15 fun t17 => cl (f125 t0) fun t20 => nes t16 t20 fun t21 => jn (fun (j1 : Value → Value → M) => cnd t21 ( cl (f125 t0) fun t24 => smr Tryz.prog (Instr.build 48 #[(0, (.int .i64 0)), (1, t24)]) fun t25 => sm Tryz.prog (Instr.buildSlice 49 1 #[(0, t25)]) fun t26 => sm Tryz.prog (Builtin.append_ #[49, 49] 49 #[(.slice none 0 0), t26]) fun t27 => j1 t0 t27 ) ( j1 t0 (.slice none 0 0) ) ) (f104_j1)
theorem s104 (t0 : Value) (w : World) (Q : Value → World → Prop) (h : f104 t0 w Q) : Calls Tryz.prog 104 #[t0] w (Rt Q) := by
  refine calls_of (l := [t0]) Tryz.func104 rfl Tryz.ntmps104 (Nat.le_of_ble_eq_true rfl) ?_
  unfold f104 at h
  refine wp_seq ?_
  refine L_region ?_
  refine L_as ?_
  refine L_nil ?_
  refine E_n ?_
  refine wp_seq ?_
  refine L_region ?_
  refine L_as ?_
  refine L_nil ?_
  refine E_n ?_
  refine wp_seq ?_
  refine wp_seq ?_
  refine L_region ?_
  refine L_mv ?_
  refine L_u (P_nc h) ?_
  intro v w h
  refine L_u (P_fa fo113_0 h) ?_
  intro v w h
  refine L_u (P_ld sc29 h) ?_
  intro v w h
  refine L_u (N_cl Tryz.func27 rfl nn27 (fun w Q h => s27 _ _ w Q h) h) ?_
  intro v w h
  refine L_mv ?_
  refine L_u (P_ex h) ?_
  intro v w h
  refine L_u (P_ex h) ?_
  intro v w h
  refine L_as ?_
  refine L_as ?_
  refine L_nil ?_
  refine E_n ?_
  refine wp_seq ?_
  refine L_region ?_
  refine L_mv ?_
  refine L_mv ?_
  refine L_u (N_cl Tryz.func125 rfl nn125 (fun w Q h => s125 _ w Q h) h) ?_
  intro v w h
  refine L_u (P_nes h) ?_
  intro v w h
  refine L_nil ?_
  refine E_n ?_
  refine C_join (fun (k : Value → Value → M) (ρ : Nat → Value) => k (ρ 0) (ρ 3)) h (fun j1 J1 h => ?_) (fun ρ w h => ?_)
  · refine C_cnd h (fun h => ?_) (fun h => ?_)
    · refine L_region ?_
      refine L_mv ?_
      refine L_mv ?_
      refine L_u (N_cl Tryz.func125 rfl nn125 (fun w Q h => s125 _ w Q h) h) ?_
      intro v w h
      refine L_u (N_bld h) ?_
      intro v w h
      refine L_u (N_bsl h) ?_
      intro v w h
      refine L_u (N_bi rfl h) ?_
      intro v w h
      refine L_as ?_
      refine L_nil ?_
      exact J1 _ _ h
    · refine C_skip ?_
      exact J1 _ _ h
  · unfold f104_j1 at h
    refine E_n ?_
    refine wp_seq ?_
    refine wp_seq ?_
    refine L_region ?_
    refine L_mv ?_
    refine L_u (P_nc h) ?_
    intro v w h
    refine L_u (P_fa fo113_1 h) ?_
    intro v w h
    refine L_u (P_fa fo110_2 h) ?_
    intro v w h
    refine L_u (P_ld sc107 h) ?_
    intro v w h
    refine L_u (N_cc Tryz.func126 rfl nn126 h) ?_
    intro v w h
    refine L_u (N_cc Tryz.func92 rfl nn92 h) ?_
    intro v w h
    refine L_u (P_lnl is22 h) ?_
    intro v w h
    refine L_mv ?_
    refine L_nil ?_
    refine E_n ?_
    refine C_join (fun (k : Value → M) (ρ : Nat → Value) => k (ρ 3)) h (fun j2 J2 h => ?_) (fun ρ w h => ?_)
    · refine C_blk ?_
      refine C_lo (fun (l : Value → Value → Value → Value → Value → M) (ρ : Nat → Value) => l (ρ 0) (ρ 3) (ρ 34) (ρ 35) (ρ 36)) h (fun ρ w h => h) (fun nx self3 L3 ρ w h => ?_)
      unfold f104_b3 at h
      refine wp_seq ?_
      refine L_region ?_
      refine L_u (P_lt h) ?_
      intro v w h
      refine L_nil ?_
      refine E_n ?_
      refine wp_seq ?_
      refine C_cnd h (fun h => ?_) (fun h => ?_)
      · refine C_skip ?_
        refine E_n ?_
        refine wp_seq ?_
        refine C_blk ?_
        refine wp_seq ?_
        refine L_region ?_
        refine L_u (P_ia se22 h) ?_
        intro v w h
        refine L_u (P_ld sc3 h) ?_
        intro v w h
        refine L_as ?_
        refine L_nil ?_
        refine E_n ?_
        refine wp_seq ?_
        refine L_region ?_
        refine L_mv ?_
        refine L_u (P_nc h) ?_
        intro v w h
        refine L_u (P_fa fo113_0 h) ?_
        intro v w h
        refine L_u (P_ld sc29 h) ?_
        intro v w h
        refine L_mv ?_
        refine L_u (N_cl Tryz.func27 rfl nn27 (fun w Q h => s27 _ _ w Q h) h) ?_
        intro v w h
        refine L_mv ?_
        refine L_u (P_ex h) ?_
        intro v w h
        refine L_u (P_ex h) ?_
        intro v w h
        refine L_as ?_
        refine L_as ?_
        refine L_nil ?_
        refine E_n ?_
        refine wp_seq ?_
        refine L_region ?_
        refine L_mv ?_
        refine L_u (P_nc h) ?_
        intro v w h
        refine L_u (P_fa fo113_1 h) ?_
        intro v w h
        refine L_mv ?_
        refine L_u (N_cl Tryz.func71 rfl nn71 (fun w Q h => s71 _ _ w Q h) h) ?_
        intro v w h
        refine L_mv ?_
        refine L_g (t := 54) h rfl rfl (fun c h => P_mv h c) ?_
        intro v w h
        refine L_g (t := 54) h rfl rfl (fun c h => P_mv h c) ?_
        intro v w h
        refine L_g (t := 54) h rfl rfl (fun c h => P_nc h c) ?_
        intro v w h
        refine L_g (t := 54) h rfl rfl (fun c h => P_fa fo113_1 h c) ?_
        intro v w h
        refine L_g (t := 54) h rfl rfl (fun c h => P_fa fo110_2 h c) ?_
        intro v w h
        refine L_g (t := 54) h rfl rfl (fun c h => P_ld sc107 h c) ?_
        intro v w h
        refine L_g (t := 54) h rfl rfl (fun c h => P_mv h c) ?_
        intro v w h
        refine L_g (t := 54) h rfl rfl (fun c h => P_smr rfl h c) ?_
        intro v w h
        refine L_g (t := 54) h rfl rfl (fun c h => P_nes h c) ?_
        intro v w h
        refine L_u (P_pk h) ?_
        intro v w h
        refine L_nil ?_
        refine E_n ?_
        refine C_join (fun (k : Value → Value → Value → Value → Value → M) (ρ : Nat → Value) => k (ρ 0) (ρ 3) (ρ 34) (ρ 35) (ρ 36)) h (fun j4 J4 h => ?_) (fun ρ w h => ?_)
        · refine C_cnd h (fun h => ?_) (fun h => ?_)
          · refine L_region ?_
            refine L_mv ?_
            refine L_mv ?_
            refine L_mv ?_
            refine L_u (P_nc h) ?_
            intro v w h
            refine L_u (P_fa fo113_1 h) ?_
            intro v w h
            refine L_u (P_fa fo110_2 h) ?_
            intro v w h
            refine L_u (P_ld sc107 h) ?_
            intro v w h
            refine L_mv ?_
            refine L_u (P_smr rfl h) ?_
            intro v w h
            refine L_u (N_bld h) ?_
            intro v w h
            refine L_u (N_bsl h) ?_
            intro v w h
            refine L_u (N_bi rfl h) ?_
            intro v w h
            refine L_as ?_
            refine L_nil ?_
            exact J4 _ _ h
          · refine C_skip ?_
            exact J4 _ _ h
        · unfold f104_j4 at h
          refine B_n ?_
          refine E_n ?_
          refine L_region ?_
          refine L_u (P_ad h) ?_
          intro v w h
          refine L_mv ?_
          refine L_nil ?_
          refine E_n ?_
          exact L3 _ _ h
      · refine C_exit ?_
        refine E_x ?_
        refine E_x ?_
        refine B_x ?_
        exact J2 _ _ h
    · unfold f104_j2 at h
      refine E_n ?_
      refine wp_seq ?_
      refine L_region ?_
      refine L_mv ?_
      refine L_as ?_
      refine L_nil ?_
      refine E_n ?_
      refine C_ret ?_
      show bodyPost Tryz.prog Tryz.f104 (Rt Q) .ret _ _
      exact post_tmps (ts := [2]) (.inr rfl) rfl h

def f69 (t0 : Value) : M := cl (f70 t0) fun t6 => nei .i64 t6 (.int .i64 0) fun t8 => cnd t8 ( rt t6 ) ( dr <| idv t0 fun t10 => nc t10 fun t11 => fa 0 t11 fun t12 => ld t12 fun t13 => idv t0 fun t14 => cl (f104 t14) fun t15 => kp (Kld t12 t13) <| cl (f25 t13 t15) fun t16 => idv t16 fun t4 => nc t0 fun t19 => fa 24 t19 fun t20 => ld t20 fun t21 => gd t21 false (idv t4) fun t23 => gd t21 false (eqi .i64 t23 (.int .i64 0)) fun t24 => pk t21 (.bool true) t24 fun t25 => nc t0 fun t26 => fa 24 t26 fun t27 => st t27 t25 <| rt t4 )
theorem s69 (t0 : Value) (w : World) (Q : Value → World → Prop) (h : f69 t0 w Q) : Calls Tryz.prog 69 #[t0] w (Rt Q) := by
  refine calls_of (l := [t0]) Tryz.func69 rfl Tryz.ntmps69 (Nat.le_of_ble_eq_true rfl) ?_
  unfold f69 at h
  refine wp_seq ?_
  refine L_region ?_
  refine L_as ?_
  refine L_nil ?_
  refine E_n ?_
  refine wp_seq ?_
  refine wp_seq ?_
  refine L_region ?_
  refine L_mv ?_
  refine L_u (N_cl Tryz.func70 rfl nn70 (fun w Q h => s70 _ w Q h) h) ?_
  intro v w h
  refine L_as ?_
  refine L_nil ?_
  refine E_n ?_
  refine wp_seq ?_
  refine L_region ?_
  refine L_mv ?_
  refine L_u (P_nei h) ?_
  intro v w h
  refine L_nil ?_
  refine E_n ?_
  refine C_cnd h (fun h => ?_) (fun h => ?_)
  · refine wp_seq ?_
    refine L_region ?_
    refine L_mv ?_
    refine L_as ?_
    refine L_nil ?_
    refine E_n ?_
    refine C_ret ?_
    show bodyPost Tryz.prog Tryz.f69 (Rt Q) .ret _ _
    exact post_tmps (ts := [2]) (.inr rfl) rfl h
  · refine C_skip ?_
    refine E_n ?_
    refine wp_seq ?_
    refine D_region (by decide +kernel) 8 rfl ?_
    replace h := dr_e h
    refine G_p 0 rfl (by decide +kernel) (Y_mv h) ?_
    intro v h
    refine G_p 1 rfl (by decide +kernel) (Y_nc h) ?_
    intro v h
    refine G_p 2 rfl (by decide +kernel) (Y_fa fo113_0 h) ?_
    intro v h
    refine G_r _ 3 rfl (by decide +kernel) (R_ld sc29 h) ?_
    intro v h
    refine G_p 4 rfl (by decide +kernel) (Y_mv h) ?_
    intro v h
    refine G_e 5 rfl (by decide +kernel) (N_cl Tryz.func104 rfl nn104 (fun w Q h => s104 _ w Q h) h ?_)
    intro v w h
    refine ⟨keepF_cons (kp_1 h) keepF_nil, ?_⟩
    replace h := (kp_2 h)
    refine G_e 6 rfl (by decide +kernel) (N_cl Tryz.func25 rfl nn25 (fun w Q h => s25 _ _ w Q h) h ?_)
    intro v w h
    refine ⟨keepF_dep [3] (by decide +kernel) rfl keepF_nil, ?_⟩
    refine G_p 7 rfl (by decide +kernel) (Y_as h) ?_
    intro v h
    refine G_done (by decide +kernel) ?_
    refine E_n ?_
    refine wp_seq ?_
    refine L_region ?_
    refine L_mv ?_
    refine L_mv ?_
    refine L_u (P_nc h) ?_
    intro v w h
    refine L_u (P_fa fo113_3 h) ?_
    intro v w h
    refine L_u (P_ld sc4 h) ?_
    intro v w h
    refine L_mv ?_
    refine L_g (t := 22) h rfl rfl (fun c h => P_mv h c) ?_
    intro v w h
    refine L_g (t := 22) h rfl rfl (fun c h => P_eqi h c) ?_
    intro v w h
    refine L_u (P_pk h) ?_
    intro v w h
    refine L_u (P_nc h) ?_
    intro v w h
    refine L_u (P_fa fo113_3 h) ?_
    intro v w h
    refine L_u (P_st on4 h) ?_
    intro w h
    refine L_nil ?_
    refine E_n ?_
    refine wp_seq ?_
    refine L_region ?_
    refine L_mv ?_
    refine L_as ?_
    refine L_nil ?_
    refine E_n ?_
    refine C_ret ?_
    show bodyPost Tryz.prog Tryz.f69 (Rt Q) .ret _ _
    exact post_tmps (ts := [2]) (.inr rfl) rfl h

def f103 (t0 t1 : Value) : M := eqi .i64 t1 (.int .i64 0) fun t6 => gd t6 false (idv t0) fun t8 => gd t6 false (nc t8) fun t9 => gd t6 false (fa 1 t9) fun t10 => gd t6 false (ld t10) fun t11 => gd t6 false (ia 1 t11 (.int .i64 0)) fun t12 => gd t6 false (ld t12) fun t13 => gd t6 false (idv t1) fun t14 => gd t6 false (qu .i64 t14 (.int .i64 8)) fun t15 => gd t6 false (ixs t13 t15) fun t16 => gd t6 false (idv t1) fun t17 => gd t6 false (re .i64 t17 (.int .i64 8)) fun t18 => gd t6 false (cv .u64 t18) fun t19 => gd t6 false (shr .u8 .u64 t16 t19) fun t20 => gd t6 false (re .u8 t20 (.int .u8 2)) fun t21 => gd t6 false (eqi .u8 t21 (.int .u8 1)) fun t22 => pk t6 (.bool true) t22 fun t23 => rt t23
theorem s103 (t0 t1 : Value) (w : World) (Q : Value → World → Prop) (h : f103 t0 t1 w Q) : Calls Tryz.prog 103 #[t0, t1] w (Rt Q) := by
  refine calls_of (l := [t0, t1]) Tryz.func103 rfl Tryz.ntmps103 (Nat.le_of_ble_eq_true rfl) ?_
  unfold f103 at h
  refine wp_seq ?_
  refine L_region ?_
  refine L_as ?_
  refine L_nil ?_
  refine E_n ?_
  refine wp_seq ?_
  refine L_region ?_
  refine L_mv ?_
  refine L_u (P_eqi h) ?_
  intro v w h
  refine L_mv ?_
  refine L_g (t := 7) h rfl rfl (fun c h => P_mv h c) ?_
  intro v w h
  refine L_g (t := 7) h rfl rfl (fun c h => P_nc h c) ?_
  intro v w h
  refine L_g (t := 7) h rfl rfl (fun c h => P_fa fo151_1 h c) ?_
  intro v w h
  refine L_g (t := 7) h rfl rfl (fun c h => P_ld sc100 h c) ?_
  intro v w h
  refine L_g (t := 7) h rfl rfl (fun c h => P_ia se100 h c) ?_
  intro v w h
  refine L_g (t := 7) h rfl rfl (fun c h => P_ld sc9 h c) ?_
  intro v w h
  refine L_g (t := 7) h rfl rfl (fun c h => P_mv h c) ?_
  intro v w h
  refine L_g (t := 7) h rfl rfl (fun c h => P_qu h c) ?_
  intro v w h
  refine L_g (t := 7) h rfl rfl (fun c h => P_ixs st9 h c) ?_
  intro v w h
  refine L_g (t := 7) h rfl rfl (fun c h => P_mv h c) ?_
  intro v w h
  refine L_g (t := 7) h rfl rfl (fun c h => P_re h c) ?_
  intro v w h
  refine L_g (t := 7) h rfl rfl (fun c h => P_cv ai3 in37 h c) ?_
  intro v w h
  refine L_g (t := 7) h rfl rfl (fun c h => P_shr h c) ?_
  intro v w h
  refine L_g (t := 7) h rfl rfl (fun c h => P_re h c) ?_
  intro v w h
  refine L_g (t := 7) h rfl rfl (fun c h => P_eqi h c) ?_
  intro v w h
  refine L_u (P_pk h) ?_
  intro v w h
  refine L_as ?_
  refine L_nil ?_
  refine E_n ?_
  refine C_ret ?_
  show bodyPost Tryz.prog Tryz.f103 (Rt Q) .ret _ _
  exact post_tmps (ts := [4]) (.inr rfl) rfl h
end Go.Proofs.YtongpnolikkknaaGreatDoor

set_option maxRecDepth 20000
set_option maxHeartbeats 4000000
namespace Go.Proofs.YtongpnolikkknaaGreatDoor
open Sh
attribute [local irreducible] wpL anyG act jn lo gdB amb kp smr nc fa ld ldn st stn ad su mu qu re lt le gt ge eqi nei bws shl shr cat eqs nes lts gts eqb neb nt pk cv al bx ex fld fldn lnl lns ia iaa ixs sls sll sla mif mnm mxm mm asrt sm smu cl cc cf ci cnd gd gdu
def f123 (t0 t1 : Value) : M := gt .i64 t1 (.int .i64 0) fun t6 => gd t6 true (idv t1) fun t8 => gd t6 true (idv t0) fun t9 => gd t6 true (nc t9) fun t10 => gd t6 true (fa 1 t10) fun t11 => gd t6 true (ld t11) fun t12 => gd t6 true (lnl t12) fun t13 => gd t6 true (lt .i64 t8 t13) fun t14 => pk t6 t14 (.bool false) fun t15 => gd t15 true (idv t0) fun t17 => gd t15 true (idv t1) fun t18 => gd t15 true (cl (f103 t17 t18)) fun t19 => pk t15 t19 (.bool false) fun t20 => rt t20
theorem s123 (t0 t1 : Value) (w : World) (Q : Value → World → Prop) (h : f123 t0 t1 w Q) : Calls Tryz.prog 123 #[t0, t1] w (Rt Q) := by
  refine calls_of (l := [t0, t1]) Tryz.func123 rfl Tryz.ntmps123 (Nat.le_of_ble_eq_true rfl) ?_
  unfold f123 at h
  refine wp_seq ?_
  refine L_region ?_
  refine L_as ?_
  refine L_nil ?_
  refine E_n ?_
  refine wp_seq ?_
  refine L_region ?_
  refine L_mv ?_
  refine L_u (P_gt h) ?_
  intro v w h
  refine L_mv ?_
  refine L_g (t := 7) h rfl rfl (fun c h => P_mv h c) ?_
  intro v w h
  refine L_g (t := 7) h rfl rfl (fun c h => P_mv h c) ?_
  intro v w h
  refine L_g (t := 7) h rfl rfl (fun c h => P_nc h c) ?_
  intro v w h
  refine L_g (t := 7) h rfl rfl (fun c h => P_fa fo151_1 h c) ?_
  intro v w h
  refine L_g (t := 7) h rfl rfl (fun c h => P_ld sc100 h c) ?_
  intro v w h
  refine L_g (t := 7) h rfl rfl (fun c h => P_lnl is100 h c) ?_
  intro v w h
  refine L_g (t := 7) h rfl rfl (fun c h => P_lt h c) ?_
  intro v w h
  refine L_u (P_pk h) ?_
  intro v w h
  refine L_mv ?_
  refine L_g (t := 16) h rfl rfl (fun c h => P_mv h c) ?_
  intro v w h
  refine L_g (t := 16) h rfl rfl (fun c h => P_mv h c) ?_
  intro v w h
  refine L_g (t := 16) h rfl rfl (fun c h => N_cl Tryz.func103 rfl nn103 (fun w Q h => s103 _ _ w Q h) h c) ?_
  intro v w h
  refine L_u (P_pk h) ?_
  intro v w h
  refine L_as ?_
  refine L_nil ?_
  refine E_n ?_
  refine C_ret ?_
  show bodyPost Tryz.prog Tryz.f123 (Rt Q) .ret _ _
  exact post_tmps (ts := [4]) (.inr rfl) rfl h

def f94 (t0 t1 : Value) : M := nc t0 fun t7 => fa 3 t7 fun t8 => ld t8 fun t9 => cnd t9 ( rt (.tuple #[(.string ⟨#[]⟩), (.int .i64 13)]) ) ( cl (f123 t0 t1) fun t12 => nt t12 fun t13 => cnd t13 ( rt (.tuple #[(.string ⟨#[]⟩), (.int .i64 7)]) ) ( nc t0 fun t15 => fa 1 t15 fun t16 => ld t16 fun t17 => ia 1 t17 t1 fun t19 => ld t19 fun t20 => rt (.tuple #[t20, (.int .i64 0)]) ) )
theorem s94 (t0 t1 : Value) (w : World) (Q : Value → World → Prop) (h : f94 t0 t1 w Q) : Calls Tryz.prog 94 #[t0, t1] w (Rt Q) := by
  refine calls_of (l := [t0, t1]) Tryz.func94 rfl Tryz.ntmps94 (Nat.le_of_ble_eq_true rfl) ?_
  unfold f94 at h
  refine wp_seq ?_
  refine L_region ?_
  refine L_as ?_
  refine L_as ?_
  refine L_nil ?_
  refine E_n ?_
  refine wp_seq ?_
  refine wp_seq ?_
  refine L_region ?_
  refine L_mv ?_
  refine L_u (P_nc h) ?_
  intro v w h
  refine L_u (P_fa fo151_3 h) ?_
  intro v w h
  refine L_u (P_ld sc4 h) ?_
  intro v w h
  refine L_nil ?_
  refine E_n ?_
  refine C_cnd h (fun h => ?_) (fun h => ?_)
  · refine wp_seq ?_
    refine L_region ?_
    refine L_as ?_
    refine L_as ?_
    refine L_nil ?_
    refine E_n ?_
    refine C_ret ?_
    show bodyPost Tryz.prog Tryz.f94 (Rt Q) .ret _ _
    exact post_tmps (ts := [4, 5]) (.inr rfl) rfl h
  · refine C_skip ?_
    refine E_n ?_
    refine wp_seq ?_
    refine wp_seq ?_
    refine L_region ?_
    refine L_mv ?_
    refine L_mv ?_
    refine L_u (N_cl Tryz.func123 rfl nn123 (fun w Q h => s123 _ _ w Q h) h) ?_
    intro v w h
    refine L_u (P_nt h) ?_
    intro v w h
    refine L_nil ?_
    refine E_n ?_
    refine C_cnd h (fun h => ?_) (fun h => ?_)
    · refine wp_seq ?_
      refine L_region ?_
      refine L_as ?_
      refine L_as ?_
      refine L_nil ?_
      refine E_n ?_
      refine C_ret ?_
      show bodyPost Tryz.prog Tryz.f94 (Rt Q) .ret _ _
      exact post_tmps (ts := [4, 5]) (.inr rfl) rfl h
    · refine C_skip ?_
      refine E_n ?_
      refine wp_seq ?_
      refine L_region ?_
      refine L_mv ?_
      refine L_u (P_nc h) ?_
      intro v w h
      refine L_u (P_fa fo151_1 h) ?_
      intro v w h
      refine L_u (P_ld sc100 h) ?_
      intro v w h
      refine L_mv ?_
      refine L_u (P_ia se100 h) ?_
      intro v w h
      refine L_u (P_ld sc9 h) ?_
      intro v w h
      refine L_as ?_
      refine L_as ?_
      refine L_nil ?_
      refine E_n ?_
      refine C_ret ?_
      show bodyPost Tryz.prog Tryz.f94 (Rt Q) .ret _ _
      exact post_tmps (ts := [4, 5]) (.inr rfl) rfl h

def f95_b2 (j1 : Value → M) (self2 : Value → Value → Value → Value → M) (t0_1 t1_1 t5 t6 : Value) : M := lt .i64 t6 t1_1 fun t11 => cnd t11 ( ia 1 t5 t6 fun t17 => st t17 t0_1 <| ad .i64 t6 (.int .i64 1) fun t13 => self2 t0_1 t1_1 t5 t13 ) ( j1 t5 )
def f95_j1 (t5_1 : Value) : M := smr Tryz.prog (convert 42 9 t5_1) fun t19 => rt t19
def f95 (t0 t1 : Value) : M := sm Tryz.prog (Instr.makeSlice 42 t1 t1) fun t8 => jn (fun (j1 : Value → M) => lo (fun _ _ _ _ => bot) (f95_b2 j1) (fun l => l t0 t1 t8 (.int .i64 0)) ) (f95_j1)
theorem s95 (t0 t1 : Value) (w : World) (Q : Value → World → Prop) (h : f95 t0 t1 w Q) : Calls Tryz.prog 95 #[t0, t1] w (Rt Q) := by
  refine calls_of (l := [t0, t1]) Tryz.func95 rfl Tryz.ntmps95 (Nat.le_of_ble_eq_true rfl) ?_
  unfold f95 at h
  refine wp_seq ?_
  refine L_region ?_
  refine L_as ?_
  refine L_nil ?_
  refine E_n ?_
  refine wp_seq ?_
  refine L_region ?_
  refine L_mv ?_
  refine L_u (P_sm rfl h) ?_
  intro v w h
  refine L_as ?_
  refine L_nil ?_
  refine E_n ?_
  refine wp_seq ?_
  refine wp_seq ?_
  refine L_region ?_
  refine L_as ?_
  refine L_nil ?_
  refine E_n ?_
  refine C_join (fun (k : Value → M) (ρ : Nat → Value) => k (ρ 5)) h (fun j1 J1 h => ?_) (fun ρ w h => ?_)
  · refine C_blk ?_
    refine C_lo (fun (l : Value → Value → Value → Value → M) (ρ : Nat → Value) => l (ρ 0) (ρ 1) (ρ 5) (ρ 6)) h (fun ρ w h => h) (fun nx self2 L2 ρ w h => ?_)
    unfold f95_b2 at h
    refine wp_seq ?_
    refine wp_seq ?_
    refine L_region ?_
    refine L_mv ?_
    refine L_mv ?_
    refine L_u (P_lt h) ?_
    intro v w h
    refine L_nil ?_
    refine E_n ?_
    refine C_cnd h (fun h => ?_) (fun h => ?_)
    · refine C_skip ?_
      refine E_n ?_
      refine wp_seq ?_
      refine C_blk ?_
      refine L_region ?_
      refine L_mv ?_
      refine L_mv ?_
      refine L_mv ?_
      refine L_u (P_ia se42 h) ?_
      intro v w h
      refine L_u (P_st on5 h) ?_
      intro w h
      refine L_nil ?_
      refine B_n ?_
      refine E_n ?_
      refine L_region ?_
      refine L_mv ?_
      refine L_u (P_ad h) ?_
      intro v w h
      refine L_as ?_
      refine L_nil ?_
      refine E_n ?_
      exact L2 _ _ h
    · refine C_exit ?_
      refine E_x ?_
      refine E_x ?_
      refine B_x ?_
      exact J1 _ _ h
  · unfold f95_j1 at h
    refine E_n ?_
    refine wp_seq ?_
    refine L_region ?_
    refine L_mv ?_
    refine L_u (P_smr rfl h) ?_
    intro v w h
    refine L_as ?_
    refine L_nil ?_
    refine E_n ?_
    refine C_ret ?_
    show bodyPost Tryz.prog Tryz.f95 (Rt Q) .ret _ _
    exact post_tmps (ts := [4]) (.inr rfl) rfl h

def f96 (t0 t1 t2 : Value) : M := nc t0 fun t8 => fa 3 t8 fun t9 => ld t9 fun t10 => cnd t10 ( rt (.int .i64 13) ) ( cl (f123 t0 t1) fun t13 => nt t13 fun t14 => cnd t14 ( rt (.int .i64 7) ) ( lns t2 fun t16 => nei .i64 t16 (.int .i64 256) fun t17 => cnd t17 ( rt (.int .i64 1) ) ( nc t0 fun t19 => fa 1 t19 fun t20 => ld t20 fun t21 => ia 1 t21 t1 fun t24 => st t24 t2 <| rt (.int .i64 0) ) ) )
theorem s96 (t0 t1 t2 : Value) (w : World) (Q : Value → World → Prop) (h : f96 t0 t1 t2 w Q) : Calls Tryz.prog 96 #[t0, t1, t2] w (Rt Q) := by
  refine calls_of (l := [t0, t1, t2]) Tryz.func96 rfl Tryz.ntmps96 (Nat.le_of_ble_eq_true rfl) ?_
  unfold f96 at h
  refine wp_seq ?_
  refine L_region ?_
  refine L_as ?_
  refine L_nil ?_
  refine E_n ?_
  refine wp_seq ?_
  refine wp_seq ?_
  refine L_region ?_
  refine L_mv ?_
  refine L_u (P_nc h) ?_
  intro v w h
  refine L_u (P_fa fo151_3 h) ?_
  intro v w h
  refine L_u (P_ld sc4 h) ?_
  intro v w h
  refine L_nil ?_
  refine E_n ?_
  refine C_cnd h (fun h => ?_) (fun h => ?_)
  · refine wp_seq ?_
    refine L_region ?_
    refine L_as ?_
    refine L_nil ?_
    refine E_n ?_
    refine C_ret ?_
    show bodyPost Tryz.prog Tryz.f96 (Rt Q) .ret _ _
    exact post_tmps (ts := [6]) (.inr rfl) rfl h
  · refine C_skip ?_
    refine E_n ?_
    refine wp_seq ?_
    refine wp_seq ?_
    refine L_region ?_
    refine L_mv ?_
    refine L_mv ?_
    refine L_u (N_cl Tryz.func123 rfl nn123 (fun w Q h => s123 _ _ w Q h) h) ?_
    intro v w h
    refine L_u (P_nt h) ?_
    intro v w h
    refine L_nil ?_
    refine E_n ?_
    refine C_cnd h (fun h => ?_) (fun h => ?_)
    · refine wp_seq ?_
      refine L_region ?_
      refine L_as ?_
      refine L_nil ?_
      refine E_n ?_
      refine C_ret ?_
      show bodyPost Tryz.prog Tryz.f96 (Rt Q) .ret _ _
      exact post_tmps (ts := [6]) (.inr rfl) rfl h
    · refine C_skip ?_
      refine E_n ?_
      refine wp_seq ?_
      refine wp_seq ?_
      refine L_region ?_
      refine L_mv ?_
      refine L_u (P_lns st9 h) ?_
      intro v w h
      refine L_u (P_nei h) ?_
      intro v w h
      refine L_nil ?_
      refine E_n ?_
      refine C_cnd h (fun h => ?_) (fun h => ?_)
      · refine wp_seq ?_
        refine L_region ?_
        refine L_as ?_
        refine L_nil ?_
        refine E_n ?_
        refine C_ret ?_
        show bodyPost Tryz.prog Tryz.f96 (Rt Q) .ret _ _
        exact post_tmps (ts := [6]) (.inr rfl) rfl h
      · refine C_skip ?_
        refine E_n ?_
        refine wp_seq ?_
        refine L_region ?_
        refine L_mv ?_
        refine L_u (P_nc h) ?_
        intro v w h
        refine L_u (P_fa fo151_1 h) ?_
        intro v w h
        refine L_u (P_ld sc100 h) ?_
        intro v w h
        refine L_mv ?_
        refine L_mv ?_
        refine L_u (P_ia se100 h) ?_
        intro v w h
        refine L_u (P_st on9 h) ?_
        intro w h
        refine L_nil ?_
        refine E_n ?_
        refine wp_seq ?_
        refine L_region ?_
        refine L_as ?_
        refine L_nil ?_
        refine E_n ?_
        refine C_ret ?_
        show bodyPost Tryz.prog Tryz.f96 (Rt Q) .ret _ _
        exact post_tmps (ts := [6]) (.inr rfl) rfl h

def f124 (t0 t1 : Value) : M := nc t0 fun t6 => fa 1 t6 fun t7 => ld t7 fun t8 => ia 1 t8 (.int .i64 0) fun t9 => ld t9 fun t10 => sm Tryz.prog (convert 9 42 t10) fun t11 => qu .i64 t1 (.int .i64 8) fun t14 => ia 1 t11 t14 fun t15 => ld t15 fun t16 => re .i64 t1 (.int .i64 8) fun t18 => cv .u64 t18 fun t19 => shl .u8 .u64 (.int .u8 1) t19 fun t20 => bws .xor .u8 t16 t20 fun t21 => ia 1 t11 t14 fun t22 => st t22 t21 <| dr <| idv t0 fun t23 => nc t23 fun t24 => fa 1 t24 fun t25 => ld t25 fun t26 => idv t11 fun t27 => smr Tryz.prog (convert 42 9 t27) fun t28 => ia 1 t26 (.int .i64 0) fun t29 => st t29 t28 <| rt (.tuple #[])
theorem s124 (t0 t1 : Value) (w : World) (Q : Value → World → Prop) (h : f124 t0 t1 w Q) : Calls Tryz.prog 124 #[t0, t1] w (Rt Q) := by
  refine calls_of (l := [t0, t1]) Tryz.func124 rfl Tryz.ntmps124 (Nat.le_of_ble_eq_true rfl) ?_
  unfold f124 at h
  refine wp_seq ?_
  refine L_region ?_
  refine L_mv ?_
  refine L_u (P_nc h) ?_
  intro v w h
  refine L_u (P_fa fo151_1 h) ?_
  intro v w h
  refine L_u (P_ld sc100 h) ?_
  intro v w h
  refine L_u (P_ia se100 h) ?_
  intro v w h
  refine L_u (P_ld sc9 h) ?_
  intro v w h
  refine L_u (P_sm rfl h) ?_
  intro v w h
  refine L_as ?_
  refine L_nil ?_
  refine E_n ?_
  refine wp_seq ?_
  refine L_region ?_
  refine L_mv ?_
  refine L_mv ?_
  refine L_u (P_qu h) ?_
  intro v w h
  refine L_u (P_ia se42 h) ?_
  intro v w h
  refine L_u (P_ld sc5 h) ?_
  intro v w h
  refine L_mv ?_
  refine L_u (P_re h) ?_
  intro v w h
  refine L_u (P_cv ai3 in37 h) ?_
  intro v w h
  refine L_u (P_shl h) ?_
  intro v w h
  refine L_u (P_bits rfl h) ?_
  intro v w h
  refine L_u (P_ia se42 h) ?_
  intro v w h
  refine L_u (P_st on5 h) ?_
  intro w h
  refine L_nil ?_
  refine E_n ?_
  refine D_region (by decide +kernel) 8 rfl ?_
  replace h := dr_e h
  refine G_p 0 rfl (by decide +kernel) (Y_mv h) ?_
  intro v h
  refine G_p 1 rfl (by decide +kernel) (Y_nc h) ?_
  intro v h
  refine G_p 2 rfl (by decide +kernel) (Y_fa fo151_1 h) ?_
  intro v h
  refine G_r _ 3 rfl (by decide +kernel) (R_ld sc100 h) ?_
  intro v h
  refine G_p 4 rfl (by decide +kernel) (Y_mv h) ?_
  intro v h
  refine G_r _ 5 rfl (by decide +kernel) (R_sm rfl h) ?_
  intro v h
  refine G_p 6 rfl (by decide +kernel) (Y_ia se100 h) ?_
  intro v h
  refine G_e 7 rfl (by decide +kernel) (P_st on9 h ?_)
  intro w h
  refine ⟨keepF_dep [5] (by decide +kernel) rfl (keepF_dep [3] (by decide +kernel) rfl keepF_nil), ?_⟩
  refine G_done (by decide +kernel) ?_
  show bodyPost Tryz.prog Tryz.f124 (Rt Q) .normal _ _
  exact post_tmps (ts := []) (.inl rfl) rfl h

def f97_b2 (j1 : M) (self2 : Value → Value → M) (t0_1 t4 : Value) : M := nc t0_1 fun t11 => fa 1 t11 fun t12 => ld t12 fun t13 => lnl t13 fun t14 => lt .i64 t4 t14 fun t15 => cnd t15 ( cl (f103 t0_1 t4) fun t20 => nt t20 fun t21 => cnd t21 ( cl (f124 t0_1 t4) fun t24 => dr <| idv t0_1 fun t25 => nc t25 fun t26 => fa 1 t26 fun t27 => ld t27 fun t28 => idv t4 fun t29 => cl (f88) fun t30 => kp (Kld t27 t28) <| ia 1 t28 t29 fun t31 => st t31 t30 <| rt (.tuple #[t4, (.int .i64 0)]) ) ( ad .i64 t4 (.int .i64 1) fun t17 => self2 t0_1 t17 ) ) ( j1 )
def f97_j1 : M := rt (.tuple #[(.int .i64 0), (.int .i64 8)])
def f97 (t0 : Value) : M := nc t0 fun t6 => fa 3 t6 fun t7 => ld t7 fun t8 => cnd t8 ( rt (.tuple #[(.int .i64 0), (.int .i64 13)]) ) ( jn (fun (j1 : M) => lo (fun _ _ => bot) (f97_b2 j1) (fun l => l t0 (.int .i64 1)) ) (f97_j1) )
theorem s97 (t0 : Value) (w : World) (Q : Value → World → Prop) (h : f97 t0 w Q) : Calls Tryz.prog 97 #[t0] w (Rt Q) := by
  refine calls_of (l := [t0]) Tryz.func97 rfl Tryz.ntmps97 (Nat.le_of_ble_eq_true rfl) ?_
  unfold f97 at h
  refine wp_seq ?_
  refine L_region ?_
  refine L_as ?_
  refine L_as ?_
  refine L_nil ?_
  refine E_n ?_
  refine wp_seq ?_
  refine wp_seq ?_
  refine L_region ?_
  refine L_mv ?_
  refine L_u (P_nc h) ?_
  intro v w h
  refine L_u (P_fa fo151_3 h) ?_
  intro v w h
  refine L_u (P_ld sc4 h) ?_
  intro v w h
  refine L_nil ?_
  refine E_n ?_
  refine C_cnd h (fun h => ?_) (fun h => ?_)
  · refine wp_seq ?_
    refine L_region ?_
    refine L_as ?_
    refine L_as ?_
    refine L_nil ?_
    refine E_n ?_
    refine C_ret ?_
    show bodyPost Tryz.prog Tryz.f97 (Rt Q) .ret _ _
    exact post_tmps (ts := [2, 3]) (.inr rfl) rfl h
  · refine C_skip ?_
    refine E_n ?_
    refine wp_seq ?_
    refine wp_seq ?_
    refine L_region ?_
    refine L_as ?_
    refine L_nil ?_
    refine E_n ?_
    refine C_join (fun (k : M) (ρ : Nat → Value) => k) h (fun j1 J1 h => ?_) (fun ρ w h => ?_)
    · refine C_blk ?_
      refine C_lo (fun (l : Value → Value → M) (ρ : Nat → Value) => l (ρ 0) (ρ 4)) h (fun ρ w h => h) (fun nx self2 L2 ρ w h => ?_)
      unfold f97_b2 at h
      refine wp_seq ?_
      refine wp_seq ?_
      refine L_region ?_
      refine L_mv ?_
      refine L_mv ?_
      refine L_u (P_nc h) ?_
      intro v w h
      refine L_u (P_fa fo151_1 h) ?_
      intro v w h
      refine L_u (P_ld sc100 h) ?_
      intro v w h
      refine L_u (P_lnl is100 h) ?_
      intro v w h
      refine L_u (P_lt h) ?_
      intro v w h
      refine L_nil ?_
      refine E_n ?_
      refine C_cnd h (fun h => ?_) (fun h => ?_)
      · refine C_skip ?_
        refine E_n ?_
        refine wp_seq ?_
        refine C_blk ?_
        refine wp_seq ?_
        refine L_region ?_
        refine L_mv ?_
        refine L_mv ?_
        refine L_u (N_cl Tryz.func103 rfl nn103 (fun w Q h => s103 _ _ w Q h) h) ?_
        intro v w h
        refine L_u (P_nt h) ?_
        intro v w h
        refine L_nil ?_
        refine E_n ?_
        refine C_cnd h (fun h => ?_) (fun h => ?_)
        · refine wp_seq ?_
          refine L_region ?_
          refine L_mv ?_
          refine L_mv ?_
          refine L_u (N_cl Tryz.func124 rfl nn124 (fun w Q h => s124 _ _ w Q h) h) ?_
          intro v w h
          refine L_nil ?_
          refine E_n ?_
          refine wp_seq ?_
          refine D_region (by decide +kernel) 8 rfl ?_
          replace h := dr_e h
          refine G_p 0 rfl (by decide +kernel) (Y_mv h) ?_
          intro v h
          refine G_p 1 rfl (by decide +kernel) (Y_nc h) ?_
          intro v h
          refine G_p 2 rfl (by decide +kernel) (Y_fa fo151_1 h) ?_
          intro v h
          refine G_r _ 3 rfl (by decide +kernel) (R_ld sc100 h) ?_
          intro v h
          refine G_p 4 rfl (by decide +kernel) (Y_mv h) ?_
          intro v h
          refine G_e 5 rfl (by decide +kernel) (N_cl Tryz.func88 rfl nn88 (fun w Q h => s88 w Q h) h ?_)
          intro v w h
          refine ⟨keepF_cons (kp_1 h) keepF_nil, ?_⟩
          replace h := (kp_2 h)
          refine G_p 6 rfl (by decide +kernel) (Y_ia se100 h) ?_
          intro v h
          refine G_e 7 rfl (by decide +kernel) (P_st on9 h ?_)
          intro w h
          refine ⟨keepF_dep [3] (by decide +kernel) rfl keepF_nil, ?_⟩
          refine G_done (by decide +kernel) ?_
          refine E_n ?_
          refine wp_seq ?_
          refine L_region ?_
          refine L_mv ?_
          refine L_as ?_
          refine L_as ?_
          refine L_nil ?_
          refine E_n ?_
          refine C_ret ?_
          show bodyPost Tryz.prog Tryz.f97 (Rt Q) .ret _ _
          exact post_tmps (ts := [2, 3]) (.inr rfl) rfl h
        · refine C_skip ?_
          refine B_n ?_
          refine E_n ?_
          refine L_region ?_
          refine L_mv ?_
          refine L_u (P_ad h) ?_
          intro v w h
          refine L_as ?_
          refine L_nil ?_
          refine E_n ?_
          exact L2 _ _ h
      · refine C_exit ?_
        refine E_x ?_
        refine E_x ?_
        refine B_x ?_
        exact J1 _ _ h
    · unfold f97_j1 at h
      refine E_n ?_
      refine wp_seq ?_
      refine L_region ?_
      refine L_as ?_
      refine L_as ?_
      refine L_nil ?_
      refine E_n ?_
      refine C_ret ?_
      show bodyPost Tryz.prog Tryz.f97 (Rt Q) .ret _ _
      exact post_tmps (ts := [2, 3]) (.inr rfl) rfl h

def f98 (t0 t1 : Value) : M := nc t0 fun t6 => fa 3 t6 fun t7 => ld t7 fun t8 => cnd t8 ( rt (.int .i64 13) ) ( cl (f123 t0 t1) fun t11 => nt t11 fun t12 => cnd t12 ( rt (.int .i64 7) ) ( cl (f124 t0 t1) fun t15 => rt (.int .i64 0) ) )
theorem s98 (t0 t1 : Value) (w : World) (Q : Value → World → Prop) (h : f98 t0 t1 w Q) : Calls Tryz.prog 98 #[t0, t1] w (Rt Q) := by
  refine calls_of (l := [t0, t1]) Tryz.func98 rfl Tryz.ntmps98 (Nat.le_of_ble_eq_true rfl) ?_
  unfold f98 at h
  refine wp_seq ?_
  refine L_region ?_
  refine L_as ?_
  refine L_nil ?_
  refine E_n ?_
  refine wp_seq ?_
  refine wp_seq ?_
  refine L_region ?_
  refine L_mv ?_
  refine L_u (P_nc h) ?_
  intro v w h
  refine L_u (P_fa fo151_3 h) ?_
  intro v w h
  refine L_u (P_ld sc4 h) ?_
  intro v w h
  refine L_nil ?_
  refine E_n ?_
  refine C_cnd h (fun h => ?_) (fun h => ?_)
  · refine wp_seq ?_
    refine L_region ?_
    refine L_as ?_
    refine L_nil ?_
    refine E_n ?_
    refine C_ret ?_
    show bodyPost Tryz.prog Tryz.f98 (Rt Q) .ret _ _
    exact post_tmps (ts := [4]) (.inr rfl) rfl h
  · refine C_skip ?_
    refine E_n ?_
    refine wp_seq ?_
    refine wp_seq ?_
    refine L_region ?_
    refine L_mv ?_
    refine L_mv ?_
    refine L_u (N_cl Tryz.func123 rfl nn123 (fun w Q h => s123 _ _ w Q h) h) ?_
    intro v w h
    refine L_u (P_nt h) ?_
    intro v w h
    refine L_nil ?_
    refine E_n ?_
    refine C_cnd h (fun h => ?_) (fun h => ?_)
    · refine wp_seq ?_
      refine L_region ?_
      refine L_as ?_
      refine L_nil ?_
      refine E_n ?_
      refine C_ret ?_
      show bodyPost Tryz.prog Tryz.f98 (Rt Q) .ret _ _
      exact post_tmps (ts := [4]) (.inr rfl) rfl h
    · refine C_skip ?_
      refine E_n ?_
      refine wp_seq ?_
      refine L_region ?_
      refine L_mv ?_
      refine L_mv ?_
      refine L_u (N_cl Tryz.func124 rfl nn124 (fun w Q h => s124 _ _ w Q h) h) ?_
      intro v w h
      refine L_nil ?_
      refine E_n ?_
      refine wp_seq ?_
      refine L_region ?_
      refine L_as ?_
      refine L_nil ?_
      refine E_n ?_
      refine C_ret ?_
      show bodyPost Tryz.prog Tryz.f98 (Rt Q) .ret _ _
      exact post_tmps (ts := [4]) (.inr rfl) rfl h

def f99 (t0 t1 : Value) : M := nc t0 fun t6 => fa 3 t6 fun t7 => ld t7 fun t8 => cnd t8 ( rt (.int .i64 13) ) ( lns t1 fun t10 => gt .i64 t10 (.int .i64 236) fun t11 => cnd t11 ( rt (.int .i64 3) ) ( dr <| idv t0 fun t12 => nc t12 fun t13 => fa 1 t13 fun t14 => ld t14 fun t15 => idv t0 fun t16 => nc t16 fun t17 => fa 1 t17 fun t18 => ld t18 fun t19 => ia 1 t19 (.int .i64 0) fun t20 => ld t20 fun t21 => sls t21 none (some (.int .i64 20)) fun t22 => idv t1 fun t23 => cat t22 t23 fun t24 => idv t1 fun t26 => lns t26 fun t27 => su .i64 (.int .i64 236) t27 fun t28 => cl (f88) fun t25 => kp (Kld t20 t21) <| kp (Kld t18 t19) <| kp (Kld t14 t15) <| sls t25 none (some t28) fun t29 => cat t24 t29 fun t30 => ia 1 t15 (.int .i64 0) fun t31 => st t31 t30 <| rt (.int .i64 0) ) )
theorem s99 (t0 t1 : Value) (w : World) (Q : Value → World → Prop) (h : f99 t0 t1 w Q) : Calls Tryz.prog 99 #[t0, t1] w (Rt Q) := by
  refine calls_of (l := [t0, t1]) Tryz.func99 rfl Tryz.ntmps99 (Nat.le_of_ble_eq_true rfl) ?_
  unfold f99 at h
  refine wp_seq ?_
  refine L_region ?_
  refine L_as ?_
  refine L_nil ?_
  refine E_n ?_
  refine wp_seq ?_
  refine wp_seq ?_
  refine L_region ?_
  refine L_mv ?_
  refine L_u (P_nc h) ?_
  intro v w h
  refine L_u (P_fa fo151_3 h) ?_
  intro v w h
  refine L_u (P_ld sc4 h) ?_
  intro v w h
  refine L_nil ?_
  refine E_n ?_
  refine C_cnd h (fun h => ?_) (fun h => ?_)
  · refine wp_seq ?_
    refine L_region ?_
    refine L_as ?_
    refine L_nil ?_
    refine E_n ?_
    refine C_ret ?_
    show bodyPost Tryz.prog Tryz.f99 (Rt Q) .ret _ _
    exact post_tmps (ts := [4]) (.inr rfl) rfl h
  · refine C_skip ?_
    refine E_n ?_
    refine wp_seq ?_
    refine wp_seq ?_
    refine L_region ?_
    refine L_mv ?_
    refine L_u (P_lns st9 h) ?_
    intro v w h
    refine L_u (P_gt h) ?_
    intro v w h
    refine L_nil ?_
    refine E_n ?_
    refine C_cnd h (fun h => ?_) (fun h => ?_)
    · refine wp_seq ?_
      refine L_region ?_
      refine L_as ?_
      refine L_nil ?_
      refine E_n ?_
      refine C_ret ?_
      show bodyPost Tryz.prog Tryz.f99 (Rt Q) .ret _ _
      exact post_tmps (ts := [4]) (.inr rfl) rfl h
    · refine C_skip ?_
      refine E_n ?_
      refine wp_seq ?_
      refine D_region (by decide +kernel) 21 rfl ?_
      replace h := dr_e h
      refine G_p 0 rfl (by decide +kernel) (Y_mv h) ?_
      intro v h
      refine G_p 1 rfl (by decide +kernel) (Y_nc h) ?_
      intro v h
      refine G_p 2 rfl (by decide +kernel) (Y_fa fo151_1 h) ?_
      intro v h
      refine G_r _ 3 rfl (by decide +kernel) (R_ld sc100 h) ?_
      intro v h
      refine G_p 4 rfl (by decide +kernel) (Y_mv h) ?_
      intro v h
      refine G_p 5 rfl (by decide +kernel) (Y_nc h) ?_
      intro v h
      refine G_p 6 rfl (by decide +kernel) (Y_fa fo151_1 h) ?_
      intro v h
      refine G_r _ 7 rfl (by decide +kernel) (R_ld sc100 h) ?_
      intro v h
      refine G_p 8 rfl (by decide +kernel) (Y_ia se100 h) ?_
      intro v h
      refine G_r _ 9 rfl (by decide +kernel) (R_ld sc9 h) ?_
      intro v h
      refine G_p 10 rfl (by decide +kernel) (Y_sls st9 h) ?_
      intro v h
      refine G_p 11 rfl (by decide +kernel) (Y_mv h) ?_
      intro v h
      refine G_p 12 rfl (by decide +kernel) (Y_cat h) ?_
      intro v h
      refine G_p 14 rfl (by decide +kernel) (Y_mv h) ?_
      intro v h
      refine G_p 15 rfl (by decide +kernel) (Y_lns st9 h) ?_
      intro v h
      refine G_p 16 rfl (by decide +kernel) (Y_su h) ?_
      intro v h
      refine G_e 13 rfl (by decide +kernel) (N_cl Tryz.func88 rfl nn88 (fun w Q h => s88 w Q h) h ?_)
      intro v w h
      refine ⟨keepF_cons (kp_1 h) (keepF_cons (kp_1 (kp_2 h)) (keepF_cons (kp_1 (kp_2 (kp_2 h))) keepF_nil)), ?_⟩
      replace h := (kp_2 (kp_2 (kp_2 h)))
      refine G_p 17 rfl (by decide +kernel) (Y_sls st9 h) ?_
      intro v h
      refine G_p 18 rfl (by decide +kernel) (Y_cat h) ?_
      intro v h
      refine G_p 19 rfl (by decide +kernel) (Y_ia se100 h) ?_
      intro v h
      refine G_e 20 rfl (by decide +kernel) (P_st on9 h ?_)
      intro w h
      refine ⟨keepF_dep [9] (by decide +kernel) rfl (keepF_dep [7] (by decide +kernel) rfl (keepF_dep [3] (by decide +kernel) rfl keepF_nil)), ?_⟩
      refine G_done (by decide +kernel) ?_
      refine E_n ?_
      refine wp_seq ?_
      refine L_region ?_
      refine L_as ?_
      refine L_nil ?_
      refine E_n ?_
      refine C_ret ?_
      show bodyPost Tryz.prog Tryz.f99 (Rt Q) .ret _ _
      exact post_tmps (ts := [4]) (.inr rfl) rfl h

def f100 (t0 : Value) : M := nc t0 fun t4 => fa 3 t4 fun t5 => ld t5 fun t6 => cnd t6 ( rt (.int .i64 0) ) ( dr <| idv t0 fun t7 => idv t0 fun t8 => nc t8 fun t9 => fa 2 t9 fun t10 => ld t10 fun t11 => idv t0 fun t12 => nc t12 fun t13 => fa 1 t13 fun t14 => ld t14 fun t15 => sm Tryz.prog (Builtin.append_ #[100, 100] 100 #[(.slice none 0 0), t15]) fun t16 => kp (Kld t10 t11) <| sm Tryz.prog (Instr.buildSlice 149 1 #[(0, t16)]) fun t17 => kp (Kld t10 t11) <| sm Tryz.prog (Builtin.append_ #[149, 149] 149 #[t11, t17]) fun t18 => nc t7 fun t19 => fa 2 t19 fun t20 => st t20 t18 <| nc t0 fun t22 => fa 2 t22 fun t23 => ld t23 fun t24 => lnl t24 fun t25 => su .i64 t25 (.int .i64 1) fun t26 => rt t26 )
theorem s100 (t0 : Value) (w : World) (Q : Value → World → Prop) (h : f100 t0 w Q) : Calls Tryz.prog 100 #[t0] w (Rt Q) := by
  refine calls_of (l := [t0]) Tryz.func100 rfl Tryz.ntmps100 (Nat.le_of_ble_eq_true rfl) ?_
  unfold f100 at h
  refine wp_seq ?_
  refine L_region ?_
  refine L_as ?_
  refine L_nil ?_
  refine E_n ?_
  refine wp_seq ?_
  refine wp_seq ?_
  refine L_region ?_
  refine L_mv ?_
  refine L_u (P_nc h) ?_
  intro v w h
  refine L_u (P_fa fo151_3 h) ?_
  intro v w h
  refine L_u (P_ld sc4 h) ?_
  intro v w h
  refine L_nil ?_
  refine E_n ?_
  refine C_cnd h (fun h => ?_) (fun h => ?_)
  · refine wp_seq ?_
    refine L_region ?_
    refine L_as ?_
    refine L_nil ?_
    refine E_n ?_
    refine C_ret ?_
    show bodyPost Tryz.prog Tryz.f100 (Rt Q) .ret _ _
    exact post_tmps (ts := [2]) (.inr rfl) rfl h
  · refine C_skip ?_
    refine E_n ?_
    refine wp_seq ?_
    refine D_region (by decide +kernel) 15 rfl ?_
    replace h := dr_e h
    refine G_p 0 rfl (by decide +kernel) (Y_mv h) ?_
    intro v h
    refine G_p 1 rfl (by decide +kernel) (Y_mv h) ?_
    intro v h
    refine G_p 2 rfl (by decide +kernel) (Y_nc h) ?_
    intro v h
    refine G_p 3 rfl (by decide +kernel) (Y_fa fo151_2 h) ?_
    intro v h
    refine G_r _ 4 rfl (by decide +kernel) (R_ld sc149 h) ?_
    intro v h
    refine G_p 5 rfl (by decide +kernel) (Y_mv h) ?_
    intro v h
    refine G_p 6 rfl (by decide +kernel) (Y_nc h) ?_
    intro v h
    refine G_p 7 rfl (by decide +kernel) (Y_fa fo151_1 h) ?_
    intro v h
    refine G_r _ 8 rfl (by decide +kernel) (R_ld sc100 h) ?_
    intro v h
    refine G_e 9 rfl (by decide +kernel) (N_bi rfl h ?_)
    intro v w h
    refine ⟨keepF_dep [8] (by decide +kernel) rfl (keepF_cons (kp_1 h) keepF_nil), ?_⟩
    replace h := (kp_2 h)
    refine G_e 10 rfl (by decide +kernel) (N_bsl h ?_)
    intro v w h
    refine ⟨keepF_dep [9, 8] (by decide +kernel) rfl (keepF_cons (kp_1 h) keepF_nil), ?_⟩
    replace h := (kp_2 h)
    refine G_e 11 rfl (by decide +kernel) (N_bi rfl h ?_)
    intro v w h
    refine ⟨keepF_dep [9, 8] (by decide +kernel) rfl (keepF_dep [4] (by decide +kernel) rfl keepF_nil), ?_⟩
    refine G_p 12 rfl (by decide +kernel) (Y_nc h) ?_
    intro v h
    refine G_p 13 rfl (by decide +kernel) (Y_fa fo151_2 h) ?_
    intro v h
    refine G_e 14 rfl (by decide +kernel) (P_st on149 h ?_)
    intro w h
    refine ⟨keepF_dep [8] (by decide +kernel) rfl (keepF_dep [4] (by decide +kernel) rfl keepF_nil), ?_⟩
    refine G_done (by decide +kernel) ?_
    refine E_n ?_
    refine wp_seq ?_
    refine L_region ?_
    refine L_mv ?_
    refine L_u (P_nc h) ?_
    intro v w h
    refine L_u (P_fa fo151_2 h) ?_
    intro v w h
    refine L_u (P_ld sc149 h) ?_
    intro v w h
    refine L_u (P_lnl is149 h) ?_
    intro v w h
    refine L_u (P_su h) ?_
    intro v w h
    refine L_as ?_
    refine L_nil ?_
    refine E_n ?_
    refine C_ret ?_
    show bodyPost Tryz.prog Tryz.f100 (Rt Q) .ret _ _
    exact post_tmps (ts := [2]) (.inr rfl) rfl h

def f101 (t0 t1 : Value) : M := nc t0 fun t6 => fa 3 t6 fun t7 => ld t7 fun t8 => cnd t8 ( rt (.int .i64 13) ) ( lt .i64 t1 (.int .i64 0) fun t10 => gd t10 false (idv t1) fun t12 => gd t10 false (idv t0) fun t13 => gd t10 false (nc t13) fun t14 => gd t10 false (fa 2 t14) fun t15 => gd t10 false (ld t15) fun t16 => gd t10 false (lnl t16) fun t17 => gd t10 false (ge .i64 t12 t17) fun t18 => pk t10 (.bool true) t18 fun t19 => cnd t19 ( rt (.int .i64 7) ) ( nc t0 fun t22 => fa 2 t22 fun t23 => ld t23 fun t24 => ia 1 t24 t1 fun t26 => ld t26 fun t27 => sm Tryz.prog (Builtin.append_ #[100, 100] 100 #[(.slice none 0 0), t27]) fun t28 => nc t0 fun t29 => fa 1 t29 fun t30 => st t30 t28 <| nc t0 fun t33 => fa 2 t33 fun t34 => ld t34 fun t35 => ad .i64 t1 (.int .i64 1) fun t37 => sll 1 t35 none (some t37) fun t38 => nc t0 fun t39 => fa 2 t39 fun t40 => st t40 t38 <| rt (.int .i64 0) ) )
theorem s101 (t0 t1 : Value) (w : World) (Q : Value → World → Prop) (h : f101 t0 t1 w Q) : Calls Tryz.prog 101 #[t0, t1] w (Rt Q) := by
  refine calls_of (l := [t0, t1]) Tryz.func101 rfl Tryz.ntmps101 (Nat.le_of_ble_eq_true rfl) ?_
  unfold f101 at h
  refine wp_seq ?_
  refine L_region ?_
  refine L_as ?_
  refine L_nil ?_
  refine E_n ?_
  refine wp_seq ?_
  refine wp_seq ?_
  refine L_region ?_
  refine L_mv ?_
  refine L_u (P_nc h) ?_
  intro v w h
  refine L_u (P_fa fo151_3 h) ?_
  intro v w h
  refine L_u (P_ld sc4 h) ?_
  intro v w h
  refine L_nil ?_
  refine E_n ?_
  refine C_cnd h (fun h => ?_) (fun h => ?_)
  · refine wp_seq ?_
    refine L_region ?_
    refine L_as ?_
    refine L_nil ?_
    refine E_n ?_
    refine C_ret ?_
    show bodyPost Tryz.prog Tryz.f101 (Rt Q) .ret _ _
    exact post_tmps (ts := [4]) (.inr rfl) rfl h
  · refine C_skip ?_
    refine E_n ?_
    refine wp_seq ?_
    refine wp_seq ?_
    refine L_region ?_
    refine L_mv ?_
    refine L_u (P_lt h) ?_
    intro v w h
    refine L_mv ?_
    refine L_g (t := 11) h rfl rfl (fun c h => P_mv h c) ?_
    intro v w h
    refine L_g (t := 11) h rfl rfl (fun c h => P_mv h c) ?_
    intro v w h
    refine L_g (t := 11) h rfl rfl (fun c h => P_nc h c) ?_
    intro v w h
    refine L_g (t := 11) h rfl rfl (fun c h => P_fa fo151_2 h c) ?_
    intro v w h
    refine L_g (t := 11) h rfl rfl (fun c h => P_ld sc149 h c) ?_
    intro v w h
    refine L_g (t := 11) h rfl rfl (fun c h => P_lnl is149 h c) ?_
    intro v w h
    refine L_g (t := 11) h rfl rfl (fun c h => P_ge h c) ?_
    intro v w h
    refine L_u (P_pk h) ?_
    intro v w h
    refine L_nil ?_
    refine E_n ?_
    refine C_cnd h (fun h => ?_) (fun h => ?_)
    · refine wp_seq ?_
      refine L_region ?_
      refine L_as ?_
      refine L_nil ?_
      refine E_n ?_
      refine C_ret ?_
      show bodyPost Tryz.prog Tryz.f101 (Rt Q) .ret _ _
      exact post_tmps (ts := [4]) (.inr rfl) rfl h
    · refine C_skip ?_
      refine E_n ?_
      refine wp_seq ?_
      refine L_region ?_
      refine L_mv ?_
      refine L_mv ?_
      refine L_u (P_nc h) ?_
      intro v w h
      refine L_u (P_fa fo151_2 h) ?_
      intro v w h
      refine L_u (P_ld sc149 h) ?_
      intro v w h
      refine L_mv ?_
      refine L_u (P_ia se149 h) ?_
      intro v w h
      refine L_u (P_ld sc100 h) ?_
      intro v w h
      refine L_u (N_bi rfl h) ?_
      intro v w h
      refine L_u (P_nc h) ?_
      intro v w h
      refine L_u (P_fa fo151_1 h) ?_
      intro v w h
      refine L_u (P_st on100 h) ?_
      intro w h
      refine L_nil ?_
      refine E_n ?_
      refine wp_seq ?_
      refine L_region ?_
      refine L_mv ?_
      refine L_mv ?_
      refine L_u (P_nc h) ?_
      intro v w h
      refine L_u (P_fa fo151_2 h) ?_
      intro v w h
      refine L_u (P_ld sc149 h) ?_
      intro v w h
      refine L_mv ?_
      refine L_u (P_ad h) ?_
      intro v w h
      refine L_u (P_sll se149 h) ?_
      intro v w h
      refine L_u (P_nc h) ?_
      intro v w h
      refine L_u (P_fa fo151_2 h) ?_
      intro v w h
      refine L_u (P_st on149 h) ?_
      intro w h
      refine L_nil ?_
      refine E_n ?_
      refine wp_seq ?_
      refine L_region ?_
      refine L_as ?_
      refine L_nil ?_
      refine E_n ?_
      refine C_ret ?_
      show bodyPost Tryz.prog Tryz.f101 (Rt Q) .ret _ _
      exact post_tmps (ts := [4]) (.inr rfl) rfl h

def f63_j3 (self2 : Value → Value → Value → M) (t0_2 t3_1 t4_1 : Value) : M := ad .i64 t4_1 (.int .i64 1) fun t20 => self2 t0_2 t3_1 t20
def f63_b2 (j1 : Value → M) (self2 : Value → Value → Value → M) (t0_1 t3 t4 : Value) : M := nc t0_1 fun t7 => fa 1 t7 fun t8 => ld t8 fun t9 => lnl t9 fun t10 => lt .i64 t4 t10 fun t11 => gd t11 true (idv t0_1) fun t13 => gd t11 true (nc t13) fun t14 => gd t11 true (fa 3 t14) fun t15 => gd t11 true (ld t15) fun t16 => gd t11 true (nt t16) fun t17 => pk t11 t17 (.bool false) fun t18 => cnd t18 ( dr <| idv t0_1 fun t21 => idv t4 fun t22 => cl (f103 t21 t22) fun t23 => idv t23 fun t24 => gd t24 true (idv t0_1) fun t25 => gd t24 true (nc t25) fun t26 => gd t24 true (fa 1 t26) fun t27 => gd t24 true (ld t27) fun t28 => gd t24 true (idv t4) fun t29 => gd t24 true (ia 1 t28 t29) fun t30 => gd t24 true (ld t30) fun t31 => gd t24 true (idv t0_1) fun t32 => gd t24 true (nc t32) fun t33 => gd t24 true (fa 0 t33) fun t34 => gd t24 true (ld t34) fun t35 => gd t24 true (idv t4) fun t36 => gd t24 true (ia 1 t35 t36) fun t37 => gd t24 true (ld t37) fun t38 => gd t24 true (nes t31 t38) fun t39 => pk t24 t39 (.bool false) fun t40 => jn (fun (j3 : Value → Value → Value → M) => cnd t40 ( sm Tryz.prog (Instr.buildSlice 22 1 #[(0, t4)]) fun t43 => sm Tryz.prog (Builtin.append_ #[22, 22] 22 #[t3, t43]) fun t44 => j3 t0_1 t44 t4 ) ( j3 t0_1 t3 t4 ) ) (f63_j3 self2) ) ( j1 t3 )
def f63_j1 (t3_2 : Value) : M := rt t3_2
def f63 (t0 : Value) : M := jn (fun (j1 : Value → M) => lo (fun _ _ _ => bot) (f63_b2 j1) (fun l => l t0 (.slice none 0 0) (.int .i64 0)) ) (f63_j1)
theorem s63 (t0 : Value) (w : World) (Q : Value → World → Prop) (h : f63 t0 w Q) : Calls Tryz.prog 63 #[t0] w (Rt Q) := by
  refine calls_of (l := [t0]) Tryz.func63 rfl Tryz.ntmps63 (Nat.le_of_ble_eq_true rfl) ?_
  unfold f63 at h
  refine wp_seq ?_
  refine L_region ?_
  refine L_as ?_
  refine L_nil ?_
  refine E_n ?_
  refine wp_seq ?_
  refine L_region ?_
  refine L_as ?_
  refine L_nil ?_
  refine E_n ?_
  refine wp_seq ?_
  refine wp_seq ?_
  refine L_region ?_
  refine L_as ?_
  refine L_nil ?_
  refine E_n ?_
  refine C_join (fun (k : Value → M) (ρ : Nat → Value) => k (ρ 3)) h (fun j1 J1 h => ?_) (fun ρ w h => ?_)
  · refine C_blk ?_
    refine C_lo (fun (l : Value → Value → Value → M) (ρ : Nat → Value) => l (ρ 0) (ρ 3) (ρ 4)) h (fun ρ w h => h) (fun nx self2 L2 ρ w h => ?_)
    unfold f63_b2 at h
    refine wp_seq ?_
    refine wp_seq ?_
    refine L_region ?_
    refine L_mv ?_
    refine L_mv ?_
    refine L_u (P_nc h) ?_
    intro v w h
    refine L_u (P_fa fo151_1 h) ?_
    intro v w h
    refine L_u (P_ld sc100 h) ?_
    intro v w h
    refine L_u (P_lnl is100 h) ?_
    intro v w h
    refine L_u (P_lt h) ?_
    intro v w h
    refine L_mv ?_
    refine L_g (t := 12) h rfl rfl (fun c h => P_mv h c) ?_
    intro v w h
    refine L_g (t := 12) h rfl rfl (fun c h => P_nc h c) ?_
    intro v w h
    refine L_g (t := 12) h rfl rfl (fun c h => P_fa fo151_3 h c) ?_
    intro v w h
    refine L_g (t := 12) h rfl rfl (fun c h => P_ld sc4 h c) ?_
    intro v w h
    refine L_g (t := 12) h rfl rfl (fun c h => P_nt h c) ?_
    intro v w h
    refine L_u (P_pk h) ?_
    intro v w h
    refine L_nil ?_
    refine E_n ?_
    refine C_cnd h (fun h => ?_) (fun h => ?_)
    · refine C_skip ?_
      refine E_n ?_
      refine wp_seq ?_
      refine C_blk ?_
      refine wp_seq ?_
      refine D_region (by decide +kernel) 20 rfl ?_
      replace h := dr_e h
      refine G_p 0 rfl (by decide +kernel) (Y_mv h) ?_
      intro v h
      refine G_p 1 rfl (by decide +kernel) (Y_mv h) ?_
      intro v h
      refine G_e 2 rfl (by decide +kernel) (N_cl Tryz.func103 rfl nn103 (fun w Q h => s103 _ _ w Q h) h ?_)
      intro v w h
      refine ⟨keepF_nil, ?_⟩
      refine G_p 3 rfl (by decide +kernel) (Y_mv h) ?_
      intro v h
      refine G_pg (t := 24) 4 rfl (by decide +kernel) h rfl rfl (fun h => Y_mv h) ?_
      intro v h
      refine G_pg (t := 24) 5 rfl (by decide +kernel) h rfl rfl (fun h => Y_nc h) ?_
      intro v h
      refine G_pg (t := 24) 6 rfl (by decide +kernel) h rfl rfl (fun h => Y_fa fo151_1 h) ?_
      intro v h
      refine G_rg (t := 24) _ 7 rfl (by decide +kernel) h rfl rfl (fun h => R_ld sc100 h) ?_
      intro v h
      refine G_pg (t := 24) 8 rfl (by decide +kernel) h rfl rfl (fun h => Y_mv h) ?_
      intro v h
      refine G_pg (t := 24) 9 rfl (by decide +kernel) h rfl rfl (fun h => Y_ia se100 h) ?_
      intro v h
      refine G_rg (t := 24) _ 10 rfl (by decide +kernel) h rfl rfl (fun h => R_ld sc9 h) ?_
      intro v h
      refine G_pg (t := 24) 11 rfl (by decide +kernel) h rfl rfl (fun h => Y_mv h) ?_
      intro v h
      refine G_pg (t := 24) 12 rfl (by decide +kernel) h rfl rfl (fun h => Y_nc h) ?_
      intro v h
      refine G_pg (t := 24) 13 rfl (by decide +kernel) h rfl rfl (fun h => Y_fa fo151_0 h) ?_
      intro v h
      refine G_rg (t := 24) _ 14 rfl (by decide +kernel) h rfl rfl (fun h => R_ld sc100 h) ?_
      intro v h
      refine G_pg (t := 24) 15 rfl (by decide +kernel) h rfl rfl (fun h => Y_mv h) ?_
      intro v h
      refine G_pg (t := 24) 16 rfl (by decide +kernel) h rfl rfl (fun h => Y_ia se100 h) ?_
      intro v h
      refine G_rg (t := 24) _ 17 rfl (by decide +kernel) h rfl rfl (fun h => R_ld sc9 h) ?_
      intro v h
      refine G_pg (t := 24) 18 rfl (by decide +kernel) h rfl rfl (fun h => Y_nes h) ?_
      intro v h
      refine G_p 19 rfl (by decide +kernel) (Y_pk h) ?_
      intro v h
      refine G_done (by decide +kernel) ?_
      refine E_n ?_
      refine C_join (fun (k : Value → Value → Value → M) (ρ : Nat → Value) => k (ρ 0) (ρ 3) (ρ 4)) h (fun j3 J3 h => ?_) (fun ρ w h => ?_)
      · refine C_cnd h (fun h => ?_) (fun h => ?_)
        · refine L_region ?_
          refine L_mv ?_
          refine L_mv ?_
          refine L_u (N_bsl h) ?_
          intro v w h
          refine L_u (N_bi rfl h) ?_
          intro v w h
          refine L_as ?_
          refine L_nil ?_
          exact J3 _ _ h
        · refine C_skip ?_
          exact J3 _ _ h
      · unfold f63_j3 at h
        refine B_n ?_
        refine E_n ?_
        refine L_region ?_
        refine L_mv ?_
        refine L_u (P_ad h) ?_
        intro v w h
        refine L_as ?_
        refine L_nil ?_
        refine E_n ?_
        exact L2 _ _ h
    · refine C_exit ?_
      refine E_x ?_
      refine E_x ?_
      refine B_x ?_
      exact J1 _ _ h
  · unfold f63_j1 at h
    refine E_n ?_
    refine wp_seq ?_
    refine L_region ?_
    refine L_mv ?_
    refine L_as ?_
    refine L_nil ?_
    refine E_n ?_
    refine C_ret ?_
    show bodyPost Tryz.prog Tryz.f63 (Rt Q) .ret _ _
    exact post_tmps (ts := [2]) (.inr rfl) rfl h

def f102_b2 (j1 : Value → Value → M) (self2 : Value → Value → Value → Value → M) (t0_1 t6 t7 t8 : Value) : M := lnl t6 fun t29 => lt .i64 t8 t29 fun t30 => cnd t30 ( dr <| idv t7 fun t33 => nc t33 fun t34 => fa 0 t34 fun t35 => ld t35 fun t36 => idv t6 fun t37 => idv t8 fun t38 => ia 1 t37 t38 fun t39 => ld t39 fun t40 => idv t0_1 fun t41 => nc t41 fun t42 => fa 1 t42 fun t43 => ld t43 fun t44 => idv t6 fun t45 => idv t8 fun t46 => ia 1 t45 t46 fun t47 => ld t47 fun t48 => ia 1 t44 t48 fun t49 => ld t49 fun t50 => ia 1 t36 t40 fun t51 => st t51 t50 <| ad .i64 t8 (.int .i64 1) fun t32 => self2 t0_1 t6 t7 t32 ) ( j1 t0_1 t7 )
def f102_j1 (t0_2 t7_1 : Value) : M := nc t0_2 fun t53 => fa 3 t53 fun t54 => st t54 (.bool true) <| rt (.tuple #[t7_1, (.int .i64 0)])
def f102 (t0 t1 : Value) : M := nc t0 fun t10 => fa 3 t10 fun t11 => ld t11 fun t12 => cnd t12 ( rt (.tuple #[t1, (.int .i64 13)]) ) ( cl (f63 t0) fun t15 => lnl t15 fun t17 => gt .i64 t17 (.int .i64 31) fun t18 => cnd t18 ( rt (.tuple #[t1, (.int .i64 3)]) ) ( nc t1 fun t21 => fa 0 t21 fun t22 => ld t22 fun t23 => sm Tryz.prog (Builtin.append_ #[100, 100] 100 #[(.slice none 0 0), t23]) fun t24 => smr Tryz.prog (Instr.build 102 #[(0, t24)]) fun t25 => bx 102 t25 fun t26 => jn (fun (j1 : Value → Value → M) => lo (fun _ _ _ _ => bot) (f102_b2 j1) (fun l => l t0 t15 t26 (.int .i64 0)) ) (f102_j1) ) )
theorem s102 (t0 t1 : Value) (w : World) (Q : Value → World → Prop) (h : f102 t0 t1 w Q) : Calls Tryz.prog 102 #[t0, t1] w (Rt Q) := by
  refine calls_of (l := [t0, t1]) Tryz.func102 rfl Tryz.ntmps102 (Nat.le_of_ble_eq_true rfl) ?_
  unfold f102 at h
  refine wp_seq ?_
  refine L_region ?_
  refine L_as ?_
  refine L_as ?_
  refine L_nil ?_
  refine E_n ?_
  refine wp_seq ?_
  refine wp_seq ?_
  refine L_region ?_
  refine L_mv ?_
  refine L_u (P_nc h) ?_
  intro v w h
  refine L_u (P_fa fo151_3 h) ?_
  intro v w h
  refine L_u (P_ld sc4 h) ?_
  intro v w h
  refine L_nil ?_
  refine E_n ?_
  refine C_cnd h (fun h => ?_) (fun h => ?_)
  · refine wp_seq ?_
    refine L_region ?_
    refine L_mv ?_
    refine L_as ?_
    refine L_as ?_
    refine L_nil ?_
    refine E_n ?_
    refine C_ret ?_
    show bodyPost Tryz.prog Tryz.f102 (Rt Q) .ret _ _
    exact post_tmps (ts := [4, 5]) (.inr rfl) rfl h
  · refine C_skip ?_
    refine E_n ?_
    refine wp_seq ?_
    refine L_region ?_
    refine L_mv ?_
    refine L_u (N_cl Tryz.func63 rfl nn63 (fun w Q h => s63 _ w Q h) h) ?_
    intro v w h
    refine L_as ?_
    refine L_nil ?_
    refine E_n ?_
    refine wp_seq ?_
    refine wp_seq ?_
    refine L_region ?_
    refine L_mv ?_
    refine L_u (P_lnl is22 h) ?_
    intro v w h
    refine L_u (P_gt h) ?_
    intro v w h
    refine L_nil ?_
    refine E_n ?_
    refine C_cnd h (fun h => ?_) (fun h => ?_)
    · refine wp_seq ?_
      refine L_region ?_
      refine L_mv ?_
      refine L_as ?_
      refine L_as ?_
      refine L_nil ?_
      refine E_n ?_
      refine C_ret ?_
      show bodyPost Tryz.prog Tryz.f102 (Rt Q) .ret _ _
      exact post_tmps (ts := [4, 5]) (.inr rfl) rfl h
    · refine C_skip ?_
      refine E_n ?_
      refine wp_seq ?_
      refine L_region ?_
      refine L_mv ?_
      refine L_u (P_nc h) ?_
      intro v w h
      refine L_u (P_fa fo102_0 h) ?_
      intro v w h
      refine L_u (P_ld sc100 h) ?_
      intro v w h
      refine L_u (N_bi rfl h) ?_
      intro v w h
      refine L_u (N_bld h) ?_
      intro v w h
      refine L_u (P_bx h) ?_
      intro v w h
      refine L_as ?_
      refine L_nil ?_
      refine E_n ?_
      refine wp_seq ?_
      refine wp_seq ?_
      refine L_region ?_
      refine L_as ?_
      refine L_nil ?_
      refine E_n ?_
      refine C_join (fun (k : Value → Value → M) (ρ : Nat → Value) => k (ρ 0) (ρ 7)) h (fun j1 J1 h => ?_) (fun ρ w h => ?_)
      · refine C_blk ?_
        refine C_lo (fun (l : Value → Value → Value → Value → M) (ρ : Nat → Value) => l (ρ 0) (ρ 6) (ρ 7) (ρ 8)) h (fun ρ w h => h) (fun nx self2 L2 ρ w h => ?_)
        unfold f102_b2 at h
        refine wp_seq ?_
        refine wp_seq ?_
        refine L_region ?_
        refine L_mv ?_
        refine L_mv ?_
        refine L_u (P_lnl is22 h) ?_
        intro v w h
        refine L_u (P_lt h) ?_
        intro v w h
        refine L_nil ?_
        refine E_n ?_
        refine C_cnd h (fun h => ?_) (fun h => ?_)
        · refine C_skip ?_
          refine E_n ?_
          refine wp_seq ?_
          refine C_blk ?_
          refine D_region (by decide +kernel) 20 rfl ?_
          replace h := dr_e h
          refine G_p 0 rfl (by decide +kernel) (Y_mv h) ?_
          intro v h
          refine G_p 1 rfl (by decide +kernel) (Y_nc h) ?_
          intro v h
          refine G_p 2 rfl (by decide +kernel) (Y_fa fo102_0 h) ?_
          intro v h
          refine G_r _ 3 rfl (by decide +kernel) (R_ld sc100 h) ?_
          intro v h
          refine G_p 4 rfl (by decide +kernel) (Y_mv h) ?_
          intro v h
          refine G_p 5 rfl (by decide +kernel) (Y_mv h) ?_
          intro v h
          refine G_p 6 rfl (by decide +kernel) (Y_ia se22 h) ?_
          intro v h
          refine G_r _ 7 rfl (by decide +kernel) (R_ld sc3 h) ?_
          intro v h
          refine G_p 8 rfl (by decide +kernel) (Y_mv h) ?_
          intro v h
          refine G_p 9 rfl (by decide +kernel) (Y_nc h) ?_
          intro v h
          refine G_p 10 rfl (by decide +kernel) (Y_fa fo151_1 h) ?_
          intro v h
          refine G_r _ 11 rfl (by decide +kernel) (R_ld sc100 h) ?_
          intro v h
          refine G_p 12 rfl (by decide +kernel) (Y_mv h) ?_
          intro v h
          refine G_p 13 rfl (by decide +kernel) (Y_mv h) ?_
          intro v h
          refine G_p 14 rfl (by decide +kernel) (Y_ia se22 h) ?_
          intro v h
          refine G_r _ 15 rfl (by decide +kernel) (R_ld sc3 h) ?_
          intro v h
          refine G_p 16 rfl (by decide +kernel) (Y_ia se100 h) ?_
          intro v h
          refine G_r _ 17 rfl (by decide +kernel) (R_ld sc9 h) ?_
          intro v h
          refine G_p 18 rfl (by decide +kernel) (Y_ia se100 h) ?_
          intro v h
          refine G_e 19 rfl (by decide +kernel) (P_st on9 h ?_)
          intro w h
          refine ⟨keepF_dep [17] (by decide +kernel) rfl (keepF_dep [15] (by decide +kernel) rfl (keepF_dep [11] (by decide +kernel) rfl (keepF_dep [7] (by decide +kernel) rfl (keepF_dep [3] (by decide +kernel) rfl keepF_nil)))), ?_⟩
          refine G_done (by decide +kernel) ?_
          refine B_n ?_
          refine E_n ?_
          refine L_region ?_
          refine L_mv ?_
          refine L_u (P_ad h) ?_
          intro v w h
          refine L_as ?_
          refine L_nil ?_
          refine E_n ?_
          exact L2 _ _ h
        · refine C_exit ?_
          refine E_x ?_
          refine E_x ?_
          refine B_x ?_
          exact J1 _ _ h
      · unfold f102_j1 at h
        refine E_n ?_
        refine wp_seq ?_
        refine L_region ?_
        refine L_mv ?_
        refine L_u (P_nc h) ?_
        intro v w h
        refine L_u (P_fa fo151_3 h) ?_
        intro v w h
        refine L_u (P_st on4 h) ?_
        intro w h
        refine L_nil ?_
        refine E_n ?_
        refine wp_seq ?_
        refine L_region ?_
        refine L_mv ?_
        refine L_as ?_
        refine L_as ?_
        refine L_nil ?_
        refine E_n ?_
        refine C_ret ?_
        show bodyPost Tryz.prog Tryz.f102 (Rt Q) .ret _ _
        exact post_tmps (ts := [4, 5]) (.inr rfl) rfl h

def f57_j1 (t0_1 t3_1 t9 : Value) : M := dr <| idv t0_1 fun t61 => nc t61 fun t62 => fa 1 t62 fun t63 => ld t63 fun t64 => fa 1 t3_1 fun t65 => ld t65 fun t66 => idv t9 fun t67 => idv t0_1 fun t69 => nc t69 fun t70 => fa 3 t70 fun t71 => ld t71 fun t72 => fa 1 t3_1 fun t73 => ld t73 fun t74 => idv t9 fun t75 => cl (f67 t64 t66 t67) fun t68 => kp (Kld t73 t74) <| kp (Kld t71 t72) <| cl (f96 t72 t74 t75) fun t76 => eqi .i64 t68 t76 fun t77 => idv t77 fun t4 => rt t4
def f57 (t0 t1 : Value) : M := bx 92 t1 fun t3 => ldn 3 t3 fun t18 => cl (f56 t18) fun t19 => eqi .i64 t19 (.int .i64 0) fun t21 => cnd t21 ( dr <| idv t0 fun t23 => nc t23 fun t24 => fa 1 t24 fun t25 => ld t25 fun t26 => fa 1 t3 fun t27 => ld t27 fun t28 => cl (f65 t26 t28) fun t29 => idv t29 fun t22 => ex 0 t22 fun t30 => ex 1 t22 fun t31 => idv t30 fun t5 => idv t31 fun t6 => dr <| idv t0 fun t33 => nc t33 fun t34 => fa 3 t34 fun t35 => ld t35 fun t36 => fa 1 t3 fun t37 => ld t37 fun t38 => cl (f94 t36 t38) fun t39 => idv t39 fun t32 => ex 0 t32 fun t40 => ex 1 t32 fun t41 => idv t40 fun t7 => idv t41 fun t8 => eqs t5 t7 fun t44 => gd t44 true (idv t6) fun t46 => gd t44 true (idv t8) fun t47 => gd t44 true (eqi .i64 t46 t47) fun t48 => pk t44 t48 (.bool false) fun t49 => rt t49 ) ( eqi .i64 t19 (.int .i64 1) fun t51 => cnd t51 ( fa 2 t3 fun t52 => ld t52 fun t53 => cl (f95 t53 (.int .i64 256)) fun t54 => fa 2 t3 fun t55 => ld t55 fun t56 => eqi .u8 t56 (.int .u8 1) fun t57 => jn (fun (j1 : Value → Value → Value → M) => cnd t57 ( fa 2 t3 fun t58 => ld t58 fun t59 => cl (f95 t59 (.int .i64 9)) fun t60 => j1 t0 t3 t60 ) ( j1 t0 t3 t54 ) ) (f57_j1) ) ( eqi .i64 t19 (.int .i64 2) fun t79 => cnd t79 ( nc t0 fun t82 => fa 1 t82 fun t83 => ld t83 fun t84 => cl (f18 t84) fun t85 => ex 0 t85 fun t86 => ex 1 t85 fun t87 => nc t0 fun t90 => fa 3 t90 fun t91 => ld t91 fun t92 => cl (f97 t92) fun t93 => ex 0 t93 fun t94 => ex 1 t93 fun t95 => eqi .i64 t86 t94 fun t98 => gd t98 true (idv t87) fun t100 => gd t98 true (idv t95) fun t101 => gd t98 true (eqi .i64 t100 t101) fun t102 => pk t98 t102 (.bool false) fun t103 => rt t103 ) ( eqi .i64 t19 (.int .i64 3) fun t105 => cnd t105 ( dr <| idv t0 fun t106 => nc t106 fun t107 => fa 1 t107 fun t108 => ld t108 fun t109 => fa 1 t3 fun t110 => ld t110 fun t111 => idv t0 fun t113 => nc t113 fun t114 => fa 3 t114 fun t115 => ld t115 fun t116 => fa 1 t3 fun t117 => ld t117 fun t118 => cl (f20 t109 t111) fun t112 => kp (Kld t117 t118) <| kp (Kld t115 t116) <| cl (f98 t116 t118) fun t119 => eqi .i64 t112 t119 fun t120 => idv t120 fun t4_1 => rt t4_1 ) ( eqi .i64 t19 (.int .i64 4) fun t122 => cnd t122 ( fa 2 t3 fun t123 => ld t123 fun t124 => fa 1 t3 fun t125 => ld t125 fun t126 => mxm t126 (.int .i64 0) fun t127 => mnm t127 (.int .i64 300) fun t128 => cl (f95 t124 t128) fun t129 => dr <| idv t0 fun t130 => nc t130 fun t131 => fa 1 t131 fun t132 => ld t132 fun t133 => idv t129 fun t134 => idv t0 fun t136 => nc t136 fun t137 => fa 3 t137 fun t138 => ld t138 fun t139 => idv t129 fun t140 => cl (f68 t133 t134) fun t135 => kp (Kld t138 t139) <| cl (f99 t139 t140) fun t141 => eqi .i64 t135 t141 fun t142 => idv t142 fun t4_2 => rt t4_2 ) ( eqi .i64 t19 (.int .i64 5) fun t144 => cnd t144 ( dr <| idv t0 fun t145 => nc t145 fun t146 => fa 1 t146 fun t147 => ld t147 fun t148 => idv t0 fun t150 => nc t150 fun t151 => fa 3 t151 fun t152 => ld t152 fun t153 => cl (f64 t148) fun t149 => kp (Kld t152 t153) <| cl (f100 t153) fun t154 => eqi .i64 t149 t154 fun t155 => idv t155 fun t4_3 => rt t4_3 ) ( eqi .i64 t19 (.int .i64 6) fun t157 => cnd t157 ( dr <| idv t0 fun t158 => nc t158 fun t159 => fa 1 t159 fun t160 => ld t160 fun t161 => fa 1 t3 fun t162 => ld t162 fun t163 => idv t0 fun t165 => nc t165 fun t166 => fa 3 t166 fun t167 => ld t167 fun t168 => fa 1 t3 fun t169 => ld t169 fun t170 => cl (f66 t161 t163) fun t164 => kp (Kld t169 t170) <| kp (Kld t167 t168) <| cl (f101 t168 t170) fun t171 => eqi .i64 t164 t171 fun t172 => idv t172 fun t4_4 => rt t4_4 ) ( nc t0 fun t174 => fa 1 t174 fun t175 => ld t175 fun t176 => cl (f69 t176) fun t177 => dr <| idv t0 fun t179 => nc t179 fun t180 => fa 3 t180 fun t181 => ld t181 fun t182 => idv t0 fun t183 => nc t183 fun t184 => fa 2 t184 fun t185 => ld t185 fun t186 => cl (f102 t182 t186) fun t187 => idv t187 fun t178 => ex 0 t178 fun t188 => ex 1 t178 fun t189 => idv t188 fun t16 => idv t189 fun t17 => nc t0 fun t192 => fa 2 t192 fun t193 => st t193 t16 <| eqi .i64 t177 t17 fun t196 => rt t196 ) ) ) ) ) ) )
theorem s57 (t0 t1 : Value) (w : World) (Q : Value → World → Prop) (h : f57 t0 t1 w Q) : Calls Tryz.prog 57 #[t0, t1] w (Rt Q) := by
  refine calls_of (l := [t0, t1]) Tryz.func57 rfl Tryz.ntmps57 (Nat.le_of_ble_eq_true rfl) ?_
  unfold f57 at h
  refine wp_seq ?_
  refine L_region ?_
  refine L_u (P_bx h) ?_
  intro v w h
  refine L_as ?_
  refine L_nil ?_
  refine E_n ?_
  refine wp_seq ?_
  refine wp_seq ?_
  refine L_region ?_
  refine L_u (P_ldn ag92 h) ?_
  intro v w h
  refine L_u (N_cl Tryz.func56 rfl nn56 (fun w Q h => s56 _ w Q h) h) ?_
  intro v w h
  refine L_nil ?_
  refine E_n ?_
  refine C_blk ?_
  refine wp_seq ?_
  refine L_region ?_
  refine L_u (P_eqi h) ?_
  intro v w h
  refine L_as ?_
  refine L_nil ?_
  refine E_n ?_
  refine C_cnd h (fun h => ?_) (fun h => ?_)
  · refine wp_seq ?_
    refine D_region (by decide +kernel) 12 rfl ?_
    replace h := dr_e h
    refine G_p 0 rfl (by decide +kernel) (Y_mv h) ?_
    intro v h
    refine G_p 1 rfl (by decide +kernel) (Y_nc h) ?_
    intro v h
    refine G_p 2 rfl (by decide +kernel) (Y_fa fo96_1 h) ?_
    intro v h
    refine G_r _ 3 rfl (by decide +kernel) (R_ld sc25 h) ?_
    intro v h
    refine G_p 4 rfl (by decide +kernel) (Y_fa fo92_1 h) ?_
    intro v h
    refine G_r _ 5 rfl (by decide +kernel) (R_ld sc3 h) ?_
    intro v h
    refine G_e 6 rfl (by decide +kernel) (N_cl Tryz.func65 rfl nn65 (fun w Q h => s65 _ _ w Q h) h ?_)
    intro v w h
    refine ⟨keepF_dep [5] (by decide +kernel) rfl (keepF_dep [3] (by decide +kernel) rfl keepF_nil), ?_⟩
    refine G_p 7 rfl (by decide +kernel) (Y_mv h) ?_
    intro v h
    refine G_p 8 rfl (by decide +kernel) (Y_ex h) ?_
    intro v h
    refine G_p 9 rfl (by decide +kernel) (Y_ex h) ?_
    intro v h
    refine G_p 10 rfl (by decide +kernel) (Y_as h) ?_
    intro v h
    refine G_p 11 rfl (by decide +kernel) (Y_as h) ?_
    intro v h
    refine G_done (by decide +kernel) ?_
    refine E_n ?_
    refine wp_seq ?_
    refine D_region (by decide +kernel) 12 rfl ?_
    replace h := dr_e h
    refine G_p 0 rfl (by decide +kernel) (Y_mv h) ?_
    intro v h
    refine G_p 1 rfl (by decide +kernel) (Y_nc h) ?_
    intro v h
    refine G_p 2 rfl (by decide +kernel) (Y_fa fo96_3 h) ?_
    intro v h
    refine G_r _ 3 rfl (by decide +kernel) (R_ld sc94 h) ?_
    intro v h
    refine G_p 4 rfl (by decide +kernel) (Y_fa fo92_1 h) ?_
    intro v h
    refine G_r _ 5 rfl (by decide +kernel) (R_ld sc3 h) ?_
    intro v h
    refine G_e 6 rfl (by decide +kernel) (N_cl Tryz.func94 rfl nn94 (fun w Q h => s94 _ _ w Q h) h ?_)
    intro v w h
    refine ⟨keepF_dep [5] (by decide +kernel) rfl (keepF_dep [3] (by decide +kernel) rfl keepF_nil), ?_⟩
    refine G_p 7 rfl (by decide +kernel) (Y_mv h) ?_
    intro v h
    refine G_p 8 rfl (by decide +kernel) (Y_ex h) ?_
    intro v h
    refine G_p 9 rfl (by decide +kernel) (Y_ex h) ?_
    intro v h
    refine G_p 10 rfl (by decide +kernel) (Y_as h) ?_
    intro v h
    refine G_p 11 rfl (by decide +kernel) (Y_as h) ?_
    intro v h
    refine G_done (by decide +kernel) ?_
    refine E_n ?_
    refine wp_seq ?_
    refine L_region ?_
    refine L_mv ?_
    refine L_mv ?_
    refine L_u (P_eqs h) ?_
    intro v w h
    refine L_mv ?_
    refine L_g (t := 45) h rfl rfl (fun c h => P_mv h c) ?_
    intro v w h
    refine L_g (t := 45) h rfl rfl (fun c h => P_mv h c) ?_
    intro v w h
    refine L_g (t := 45) h rfl rfl (fun c h => P_eqi h c) ?_
    intro v w h
    refine L_u (P_pk h) ?_
    intro v w h
    refine L_as ?_
    refine L_nil ?_
    refine E_n ?_
    refine C_ret ?_
    show bodyPost Tryz.prog Tryz.f57 (Rt Q) .ret _ _
    exact post_tmps (ts := [4]) (.inr rfl) rfl h
  · refine wp_seq ?_
    refine L_region ?_
    refine L_u (P_eqi h) ?_
    intro v w h
    refine L_as ?_
    refine L_nil ?_
    refine E_n ?_
    refine C_cnd h (fun h => ?_) (fun h => ?_)
    · refine wp_seq ?_
      refine L_region ?_
      refine L_u (P_fa fo92_2 h) ?_
      intro v w h
      refine L_u (P_ld sc5 h) ?_
      intro v w h
      refine L_u (N_cl Tryz.func95 rfl nn95 (fun w Q h => s95 _ _ w Q h) h) ?_
      intro v w h
      refine L_as ?_
      refine L_nil ?_
      refine E_n ?_
      refine wp_seq ?_
      refine wp_seq ?_
      refine L_region ?_
      refine L_u (P_fa fo92_2 h) ?_
      intro v w h
      refine L_u (P_ld sc5 h) ?_
      intro v w h
      refine L_u (P_eqi h) ?_
      intro v w h
      refine L_nil ?_
      refine E_n ?_
      refine C_join (fun (k : Value → Value → Value → M) (ρ : Nat → Value) => k (ρ 0) (ρ 3) (ρ 9)) h (fun j1 J1 h => ?_) (fun ρ w h => ?_)
      · refine C_cnd h (fun h => ?_) (fun h => ?_)
        · refine L_region ?_
          refine L_u (P_fa fo92_2 h) ?_
          intro v w h
          refine L_u (P_ld sc5 h) ?_
          intro v w h
          refine L_u (N_cl Tryz.func95 rfl nn95 (fun w Q h => s95 _ _ w Q h) h) ?_
          intro v w h
          refine L_as ?_
          refine L_nil ?_
          exact J1 _ _ h
        · refine C_skip ?_
          exact J1 _ _ h
      · unfold f57_j1 at h
        refine E_n ?_
        refine wp_seq ?_
        refine D_region (by decide +kernel) 18 rfl ?_
        replace h := dr_e h
        refine G_p 0 rfl (by decide +kernel) (Y_mv h) ?_
        intro v h
        refine G_p 1 rfl (by decide +kernel) (Y_nc h) ?_
        intro v h
        refine G_p 2 rfl (by decide +kernel) (Y_fa fo96_1 h) ?_
        intro v h
        refine G_r _ 3 rfl (by decide +kernel) (R_ld sc25 h) ?_
        intro v h
        refine G_p 4 rfl (by decide +kernel) (Y_fa fo92_1 h) ?_
        intro v h
        refine G_r _ 5 rfl (by decide +kernel) (R_ld sc3 h) ?_
        intro v h
        refine G_p 6 rfl (by decide +kernel) (Y_mv h) ?_
        intro v h
        refine G_p 8 rfl (by decide +kernel) (Y_mv h) ?_
        intro v h
        refine G_p 9 rfl (by decide +kernel) (Y_nc h) ?_
        intro v h
        refine G_p 10 rfl (by decide +kernel) (Y_fa fo96_3 h) ?_
        intro v h
        refine G_r _ 11 rfl (by decide +kernel) (R_ld sc94 h) ?_
        intro v h
        refine G_p 12 rfl (by decide +kernel) (Y_fa fo92_1 h) ?_
        intro v h
        refine G_r _ 13 rfl (by decide +kernel) (R_ld sc3 h) ?_
        intro v h
        refine G_p 14 rfl (by decide +kernel) (Y_mv h) ?_
        intro v h
        refine G_e 7 rfl (by decide +kernel) (N_cl Tryz.func67 rfl nn67 (fun w Q h => s67 _ _ _ w Q h) h ?_)
        intro v w h
        refine ⟨keepF_cons (kp_1 h) (keepF_cons (kp_1 (kp_2 h)) (keepF_dep [5] (by decide +kernel) rfl (keepF_dep [3] (by decide +kernel) rfl keepF_nil))), ?_⟩
        replace h := (kp_2 (kp_2 h))
        refine G_e 15 rfl (by decide +kernel) (N_cl Tryz.func96 rfl nn96 (fun w Q h => s96 _ _ _ w Q h) h ?_)
        intro v w h
        refine ⟨keepF_dep [13] (by decide +kernel) rfl (keepF_dep [11] (by decide +kernel) rfl (keepF_dep [7, 5] (by decide +kernel) rfl (keepF_dep [7, 3] (by decide +kernel) rfl keepF_nil))), ?_⟩
        refine G_p 16 rfl (by decide +kernel) (Y_eqi h) ?_
        intro v h
        refine G_p 17 rfl (by decide +kernel) (Y_as h) ?_
        intro v h
        refine G_done (by decide +kernel) ?_
        refine E_n ?_
        refine C_ret ?_
        show bodyPost Tryz.prog Tryz.f57 (Rt Q) .ret _ _
        exact post_tmps (ts := [4]) (.inr rfl) rfl h
    · refine wp_seq ?_
      refine L_region ?_
      refine L_u (P_eqi h) ?_
      intro v w h
      refine L_as ?_
      refine L_nil ?_
      refine E_n ?_
      refine C_cnd h (fun h => ?_) (fun h => ?_)
      · refine wp_seq ?_
        refine L_region ?_
        refine L_mv ?_
        refine L_u (P_nc h) ?_
        intro v w h
        refine L_u (P_fa fo96_1 h) ?_
        intro v w h
        refine L_u (P_ld sc25 h) ?_
        intro v w h
        refine L_u (N_cl Tryz.func18 rfl nn18 (fun w Q h => s18 _ w Q h) h) ?_
        intro v w h
        refine L_mv ?_
        refine L_u (P_ex h) ?_
        intro v w h
        refine L_u (P_ex h) ?_
        intro v w h
        refine L_as ?_
        refine L_as ?_
        refine L_nil ?_
        refine E_n ?_
        refine wp_seq ?_
        refine L_region ?_
        refine L_mv ?_
        refine L_u (P_nc h) ?_
        intro v w h
        refine L_u (P_fa fo96_3 h) ?_
        intro v w h
        refine L_u (P_ld sc94 h) ?_
        intro v w h
        refine L_u (N_cl Tryz.func97 rfl nn97 (fun w Q h => s97 _ w Q h) h) ?_
        intro v w h
        refine L_mv ?_
        refine L_u (P_ex h) ?_
        intro v w h
        refine L_u (P_ex h) ?_
        intro v w h
        refine L_as ?_
        refine L_as ?_
        refine L_nil ?_
        refine E_n ?_
        refine wp_seq ?_
        refine L_region ?_
        refine L_mv ?_
        refine L_mv ?_
        refine L_u (P_eqi h) ?_
        intro v w h
        refine L_mv ?_
        refine L_g (t := 99) h rfl rfl (fun c h => P_mv h c) ?_
        intro v w h
        refine L_g (t := 99) h rfl rfl (fun c h => P_mv h c) ?_
        intro v w h
        refine L_g (t := 99) h rfl rfl (fun c h => P_eqi h c) ?_
        intro v w h
        refine L_u (P_pk h) ?_
        intro v w h
        refine L_as ?_
        refine L_nil ?_
        refine E_n ?_
        refine C_ret ?_
        show bodyPost Tryz.prog Tryz.f57 (Rt Q) .ret _ _
        exact post_tmps (ts := [4]) (.inr rfl) rfl h
      · refine wp_seq ?_
        refine L_region ?_
        refine L_u (P_eqi h) ?_
        intro v w h
        refine L_as ?_
        refine L_nil ?_
        refine E_n ?_
        refine C_cnd h (fun h => ?_) (fun h => ?_)
        · refine wp_seq ?_
          refine D_region (by decide +kernel) 16 rfl ?_
          replace h := dr_e h
          refine G_p 0 rfl (by decide +kernel) (Y_mv h) ?_
          intro v h
          refine G_p 1 rfl (by decide +kernel) (Y_nc h) ?_
          intro v h
          refine G_p 2 rfl (by decide +kernel) (Y_fa fo96_1 h) ?_
          intro v h
          refine G_r _ 3 rfl (by decide +kernel) (R_ld sc25 h) ?_
          intro v h
          refine G_p 4 rfl (by decide +kernel) (Y_fa fo92_1 h) ?_
          intro v h
          refine G_r _ 5 rfl (by decide +kernel) (R_ld sc3 h) ?_
          intro v h
          refine G_p 7 rfl (by decide +kernel) (Y_mv h) ?_
          intro v h
          refine G_p 8 rfl (by decide +kernel) (Y_nc h) ?_
          intro v h
          refine G_p 9 rfl (by decide +kernel) (Y_fa fo96_3 h) ?_
          intro v h
          refine G_r _ 10 rfl (by decide +kernel) (R_ld sc94 h) ?_
          intro v h
          refine G_p 11 rfl (by decide +kernel) (Y_fa fo92_1 h) ?_
          intro v h
          refine G_r _ 12 rfl (by decide +kernel) (R_ld sc3 h) ?_
          intro v h
          refine G_e 6 rfl (by decide +kernel) (N_cl Tryz.func20 rfl nn20 (fun w Q h => s20 _ _ w Q h) h ?_)
          intro v w h
          refine ⟨keepF_cons (kp_1 h) (keepF_cons (kp_1 (kp_2 h)) (keepF_dep [5] (by decide +kernel) rfl (keepF_dep [3] (by decide +kernel) rfl keepF_nil))), ?_⟩
          replace h := (kp_2 (kp_2 h))
          refine G_e 13 rfl (by decide +kernel) (N_cl Tryz.func98 rfl nn98 (fun w Q h => s98 _ _ w Q h) h ?_)
          intro v w h
          refine ⟨keepF_dep [12] (by decide +kernel) rfl (keepF_dep [10] (by decide +kernel) rfl (keepF_dep [6, 5] (by decide +kernel) rfl (keepF_dep [6, 3] (by decide +kernel) rfl keepF_nil))), ?_⟩
          refine G_p 14 rfl (by decide +kernel) (Y_eqi h) ?_
          intro v h
          refine G_p 15 rfl (by decide +kernel) (Y_as h) ?_
          intro v h
          refine G_done (by decide +kernel) ?_
          refine E_n ?_
          refine C_ret ?_
          show bodyPost Tryz.prog Tryz.f57 (Rt Q) .ret _ _
          exact post_tmps (ts := [4]) (.inr rfl) rfl h
        · refine wp_seq ?_
          refine L_region ?_
          refine L_u (P_eqi h) ?_
          intro v w h
          refine L_as ?_
          refine L_nil ?_
          refine E_n ?_
          refine C_cnd h (fun h => ?_) (fun h => ?_)
          · refine wp_seq ?_
            refine L_region ?_
            refine L_u (P_fa fo92_2 h) ?_
            intro v w h
            refine L_u (P_ld sc5 h) ?_
            intro v w h
            refine L_u (P_fa fo92_1 h) ?_
            intro v w h
            refine L_u (P_ld sc3 h) ?_
            intro v w h
            refine L_u (P_mxm (t := 0) h) ?_
            intro v w h
            refine L_u (P_mnm (t := 0) h) ?_
            intro v w h
            refine L_u (N_cl Tryz.func95 rfl nn95 (fun w Q h => s95 _ _ w Q h) h) ?_
            intro v w h
            refine L_as ?_
            refine L_nil ?_
            refine E_n ?_
            refine wp_seq ?_
            refine D_region (by decide +kernel) 14 rfl ?_
            replace h := dr_e h
            refine G_p 0 rfl (by decide +kernel) (Y_mv h) ?_
            intro v h
            refine G_p 1 rfl (by decide +kernel) (Y_nc h) ?_
            intro v h
            refine G_p 2 rfl (by decide +kernel) (Y_fa fo96_1 h) ?_
            intro v h
            refine G_r _ 3 rfl (by decide +kernel) (R_ld sc25 h) ?_
            intro v h
            refine G_p 4 rfl (by decide +kernel) (Y_mv h) ?_
            intro v h
            refine G_p 6 rfl (by decide +kernel) (Y_mv h) ?_
            intro v h
            refine G_p 7 rfl (by decide +kernel) (Y_nc h) ?_
            intro v h
            refine G_p 8 rfl (by decide +kernel) (Y_fa fo96_3 h) ?_
            intro v h
            refine G_r _ 9 rfl (by decide +kernel) (R_ld sc94 h) ?_
            intro v h
            refine G_p 10 rfl (by decide +kernel) (Y_mv h) ?_
            intro v h
            refine G_e 5 rfl (by decide +kernel) (N_cl Tryz.func68 rfl nn68 (fun w Q h => s68 _ _ w Q h) h ?_)
            intro v w h
            refine ⟨keepF_cons (kp_1 h) (keepF_dep [3] (by decide +kernel) rfl keepF_nil), ?_⟩
            replace h := (kp_2 h)
            refine G_e 11 rfl (by decide +kernel) (N_cl Tryz.func99 rfl nn99 (fun w Q h => s99 _ _ w Q h) h ?_)
            intro v w h
            refine ⟨keepF_dep [9] (by decide +kernel) rfl (keepF_dep [5, 3] (by decide +kernel) rfl keepF_nil), ?_⟩
            refine G_p 12 rfl (by decide +kernel) (Y_eqi h) ?_
            intro v h
            refine G_p 13 rfl (by decide +kernel) (Y_as h) ?_
            intro v h
            refine G_done (by decide +kernel) ?_
            refine E_n ?_
            refine C_ret ?_
            show bodyPost Tryz.prog Tryz.f57 (Rt Q) .ret _ _
            exact post_tmps (ts := [4]) (.inr rfl) rfl h
          · refine wp_seq ?_
            refine L_region ?_
            refine L_u (P_eqi h) ?_
            intro v w h
            refine L_as ?_
            refine L_nil ?_
            refine E_n ?_
            refine C_cnd h (fun h => ?_) (fun h => ?_)
            · refine wp_seq ?_
              refine D_region (by decide +kernel) 12 rfl ?_
              replace h := dr_e h
              refine G_p 0 rfl (by decide +kernel) (Y_mv h) ?_
              intro v h
              refine G_p 1 rfl (by decide +kernel) (Y_nc h) ?_
              intro v h
              refine G_p 2 rfl (by decide +kernel) (Y_fa fo96_1 h) ?_
              intro v h
              refine G_r _ 3 rfl (by decide +kernel) (R_ld sc25 h) ?_
              intro v h
              refine G_p 5 rfl (by decide +kernel) (Y_mv h) ?_
              intro v h
              refine G_p 6 rfl (by decide +kernel) (Y_nc h) ?_
              intro v h
              refine G_p 7 rfl (by decide +kernel) (Y_fa fo96_3 h) ?_
              intro v h
              refine G_r _ 8 rfl (by decide +kernel) (R_ld sc94 h) ?_
              intro v h
              refine G_e 4 rfl (by decide +kernel) (N_cl Tryz.func64 rfl nn64 (fun w Q h => s64 _ w Q h) h ?_)
              intro v w h
              refine ⟨keepF_cons (kp_1 h) (keepF_dep [3] (by decide +kernel) rfl keepF_nil), ?_⟩
              replace h := (kp_2 h)
              refine G_e 9 rfl (by decide +kernel) (N_cl Tryz.func100 rfl nn100 (fun w Q h => s100 _ w Q h) h ?_)
              intro v w h
              refine ⟨keepF_dep [8] (by decide +kernel) rfl (keepF_dep [4, 3] (by decide +kernel) rfl keepF_nil), ?_⟩
              refine G_p 10 rfl (by decide +kernel) (Y_eqi h) ?_
              intro v h
              refine G_p 11 rfl (by decide +kernel) (Y_as h) ?_
              intro v h
              refine G_done (by decide +kernel) ?_
              refine E_n ?_
              refine C_ret ?_
              show bodyPost Tryz.prog Tryz.f57 (Rt Q) .ret _ _
              exact post_tmps (ts := [4]) (.inr rfl) rfl h
            · refine wp_seq ?_
              refine L_region ?_
              refine L_u (P_eqi h) ?_
              intro v w h
              refine L_as ?_
              refine L_nil ?_
              refine E_n ?_
              refine C_cnd h (fun h => ?_) (fun h => ?_)
              · refine wp_seq ?_
                refine D_region (by decide +kernel) 16 rfl ?_
                replace h := dr_e h
                refine G_p 0 rfl (by decide +kernel) (Y_mv h) ?_
                intro v h
                refine G_p 1 rfl (by decide +kernel) (Y_nc h) ?_
                intro v h
                refine G_p 2 rfl (by decide +kernel) (Y_fa fo96_1 h) ?_
                intro v h
                refine G_r _ 3 rfl (by decide +kernel) (R_ld sc25 h) ?_
                intro v h
                refine G_p 4 rfl (by decide +kernel) (Y_fa fo92_1 h) ?_
                intro v h
                refine G_r _ 5 rfl (by decide +kernel) (R_ld sc3 h) ?_
                intro v h
                refine G_p 7 rfl (by decide +kernel) (Y_mv h) ?_
                intro v h
                refine G_p 8 rfl (by decide +kernel) (Y_nc h) ?_
                intro v h
                refine G_p 9 rfl (by decide +kernel) (Y_fa fo96_3 h) ?_
                intro v h
                refine G_r _ 10 rfl (by decide +kernel) (R_ld sc94 h) ?_
                intro v h
                refine G_p 11 rfl (by decide +kernel) (Y_fa fo92_1 h) ?_
                intro v h
                refine G_r _ 12 rfl (by decide +kernel) (R_ld sc3 h) ?_
                intro v h
                refine G_e 6 rfl (by decide +kernel) (N_cl Tryz.func66 rfl nn66 (fun w Q h => s66 _ _ w Q h) h ?_)
                intro v w h
                refine ⟨keepF_cons (kp_1 h) (keepF_cons (kp_1 (kp_2 h)) (keepF_dep [5] (by decide +kernel) rfl (keepF_dep [3] (by decide +kernel) rfl keepF_nil))), ?_⟩
                replace h := (kp_2 (kp_2 h))
                refine G_e 13 rfl (by decide +kernel) (N_cl Tryz.func101 rfl nn101 (fun w Q h => s101 _ _ w Q h) h ?_)
                intro v w h
                refine ⟨keepF_dep [12] (by decide +kernel) rfl (keepF_dep [10] (by decide +kernel) rfl (keepF_dep [6, 5] (by decide +kernel) rfl (keepF_dep [6, 3] (by decide +kernel) rfl keepF_nil))), ?_⟩
                refine G_p 14 rfl (by decide +kernel) (Y_eqi h) ?_
                intro v h
                refine G_p 15 rfl (by decide +kernel) (Y_as h) ?_
                intro v h
                refine G_done (by decide +kernel) ?_
                refine E_n ?_
                refine C_ret ?_
                show bodyPost Tryz.prog Tryz.f57 (Rt Q) .ret _ _
                exact post_tmps (ts := [4]) (.inr rfl) rfl h
              · refine C_skip ?_
                refine B_n ?_
                refine E_n ?_
                refine wp_seq ?_
                refine L_region ?_
                refine L_mv ?_
                refine L_u (P_nc h) ?_
                intro v w h
                refine L_u (P_fa fo96_1 h) ?_
                intro v w h
                refine L_u (P_ld sc25 h) ?_
                intro v w h
                refine L_u (N_cl Tryz.func69 rfl nn69 (fun w Q h => s69 _ w Q h) h) ?_
                intro v w h
                refine L_as ?_
                refine L_nil ?_
                refine E_n ?_
                refine wp_seq ?_
                refine D_region (by decide +kernel) 14 rfl ?_
                replace h := dr_e h
                refine G_p 0 rfl (by decide +kernel) (Y_mv h) ?_
                intro v h
                refine G_p 1 rfl (by decide +kernel) (Y_nc h) ?_
                intro v h
                refine G_p 2 rfl (by decide +kernel) (Y_fa fo96_3 h) ?_
                intro v h
                refine G_r _ 3 rfl (by decide +kernel) (R_ld sc94 h) ?_
                intro v h
                refine G_p 4 rfl (by decide +kernel) (Y_mv h) ?_
                intro v h
                refine G_p 5 rfl (by decide +kernel) (Y_nc h) ?_
                intro v h
                refine G_p 6 rfl (by decide +kernel) (Y_fa fo96_2 h) ?_
                intro v h
                refine G_r _ 7 rfl (by decide +kernel) (R_ld sc67 h) ?_
                intro v h
                refine G_e 8 rfl (by decide +kernel) (N_cl Tryz.func102 rfl nn102 (fun w Q h => s102 _ _ w Q h) h ?_)
                intro v w h
                refine ⟨keepF_dep [7] (by decide +kernel) rfl (keepF_dep [3] (by decide +kernel) rfl keepF_nil), ?_⟩
                refine G_p 9 rfl (by decide +kernel) (Y_mv h) ?_
                intro v h
                refine G_p 10 rfl (by decide +kernel) (Y_ex h) ?_
                intro v h
                refine G_p 11 rfl (by decide +kernel) (Y_ex h) ?_
                intro v h
                refine G_p 12 rfl (by decide +kernel) (Y_as h) ?_
                intro v h
                refine G_p 13 rfl (by decide +kernel) (Y_as h) ?_
                intro v h
                refine G_done (by decide +kernel) ?_
                refine E_n ?_
                refine wp_seq ?_
                refine L_region ?_
                refine L_mv ?_
                refine L_mv ?_
                refine L_u (P_nc h) ?_
                intro v w h
                refine L_u (P_fa fo96_2 h) ?_
                intro v w h
                refine L_u (P_st on67 h) ?_
                intro w h
                refine L_nil ?_
                refine E_n ?_
                refine wp_seq ?_
                refine L_region ?_
                refine L_mv ?_
                refine L_mv ?_
                refine L_u (P_eqi h) ?_
                intro v w h
                refine L_as ?_
                refine L_nil ?_
                refine E_n ?_
                refine C_ret ?_
                show bodyPost Tryz.prog Tryz.f57 (Rt Q) .ret _ _
                exact post_tmps (ts := [4]) (.inr rfl) rfl h

def f59_j3 (self2 : Value → Value → Value → M) (t0_2 t3_1 t4_1 : Value) : M := ad .i64 t4_1 (.int .i64 1) fun t20 => self2 t0_2 t3_1 t20
def f59_b2 (j1 : Value → M) (self2 : Value → Value → Value → M) (t0_1 t3 t4 : Value) : M := nc t0_1 fun t7 => fa 1 t7 fun t8 => ld t8 fun t9 => lnl t9 fun t10 => lt .i64 t4 t10 fun t11 => gd t11 true (idv t0_1) fun t13 => gd t11 true (nc t13) fun t14 => gd t11 true (fa 3 t14) fun t15 => gd t11 true (ld t15) fun t16 => gd t11 true (nt t16) fun t17 => pk t11 t17 (.bool false) fun t18 => cnd t18 ( cl (f103 t0_1 t4) fun t23 => jn (fun (j3 : Value → Value → Value → M) => cnd t23 ( ad .i64 t3 (.int .i64 1) fun t25 => j3 t0_1 t25 t4 ) ( j3 t0_1 t3 t4 ) ) (f59_j3 self2) ) ( j1 t3 )
def f59_j1 (t3_2 : Value) : M := rt t3_2
def f59 (t0 : Value) : M := jn (fun (j1 : Value → M) => lo (fun _ _ _ => bot) (f59_b2 j1) (fun l => l t0 (.int .i64 0) (.int .i64 0)) ) (f59_j1)
def f10_b2 (j1 : Value → Value → M) (self2 : Value → Value → Value → Value → M) (t1_1 t2_1 t7 t9 : Value) : M := lnl t1_1 fun t29 => lt .i64 t9 t29 fun t30 => cnd t30 ( ia 3 t1_1 t9 fun t35 => ldn 3 t35 fun t36 => cl (f56 t36) fun t37 => nei .i64 t37 (.int .i64 7) fun t38 => gd t38 true (idv t7) fun t40 => gd t38 true (idv t1_1) fun t41 => gd t38 true (idv t9) fun t42 => gd t38 true (ia 3 t41 t42) fun t43 => gd t38 true (ldn 3 t43) fun t44 => gd t38 true (cl (f57 t40 t44)) fun t45 => gd t38 true (nt t45) fun t46 => pk t38 t46 (.bool false) fun t47 => cnd t47 ( rt (.bool false) ) ( ad .i64 t9 (.int .i64 1) fun t32 => self2 t1_1 t2_1 t7 t32 ) ) ( j1 t2_1 t7 )
def f10_b4 (j3 : M) (self4 : Value → Value → Value → M) (t2_3 t7_2 t12 : Value) : M := lnl t2_3 fun t76 => lt .i64 t12 t76 fun t77 => cnd t77 ( dr <| idv t7_2 fun t80 => idv t2_3 fun t81 => idv t12 fun t82 => ia 3 t81 t82 fun t83 => ldn 3 t83 fun t84 => cl (f57 t80 t84) fun t85 => nt t85 fun t86 => idv t86 fun t87 => gd t87 false (idv t7_2) fun t88 => gd t87 false (nc t88) fun t89 => gd t87 false (fa 1 t89) fun t90 => gd t87 false (ld t90) fun t91 => gd t87 false (idv t7_2) fun t93 => gd t87 false (nc t93) fun t94 => gd t87 false (fa 3 t94) fun t95 => gd t87 false (ld t95) fun t96 => gd t87 false (cl (f19 t91)) fun t92 => kp (fun w => gdB t87 false = true → Kld t95 t96 w) <| gd t87 false (cl (f59 t96)) fun t97 => gd t87 false (nei .i64 t92 t97) fun t98 => pk t87 (.bool true) t98 fun t99 => cnd t99 ( rt (.bool false) ) ( ad .i64 t12 (.int .i64 1) fun t79 => self4 t2_3 t7_2 t79 ) ) ( j3 )
def f10_j3 : M := rt (.bool true)
def f10_j1 (t2_2 t7_1 : Value) : M := smr Tryz.prog (Instr.build 92 #[(0, (.int .i64 7))]) fun t49 => cl (f57 t7_1 t49) fun t50 => nt t50 fun t51 => cnd t51 ( rt (.bool false) ) ( nc t7_1 fun t54 => fa 0 t54 fun t55 => ld t55 fun t56 => cl (f16 t56) fun t57 => ex 0 t57 fun t58 => ex 1 t57 fun t59 => nei .i64 t59 (.int .i64 0) fun t61 => cnd t61 ( rt (.bool false) ) ( nc t7_1 fun t64 => fa 1 t64 fun t65 => st t65 t58 <| nc t7_1 fun t68 => fa 2 t68 fun t69 => ld t69 fun t70 => cl (f58 t70) fun t71 => nc t7_1 fun t72 => fa 3 t72 fun t73 => st t73 t71 <| jn (fun (j3 : M) => lo (fun _ _ _ => bot) (f10_b4 j3) (fun l => l t2_2 t7_1 (.int .i64 0)) ) (f10_j3) ) )
def f10 (t0 t1 t2 : Value) : M := cl (f14) fun t13 => nt t13 fun t14 => cnd t14 ( rt (.bool false) ) ( cl (f15 t0) fun t17 => cl (f54 t17) fun t18 => ex 0 t18 fun t19 => ex 1 t18 fun t20 => nt t20 fun t22 => cnd t22 ( rt (.bool false) ) ( cl (f55 t1) fun t24 => cl (f55 t2) fun t26 => jn (fun (j1 : Value → Value → M) => lo (fun _ _ _ _ => bot) (f10_b2 j1) (fun l => l t24 t26 t19 (.int .i64 0)) ) (f10_j1) ) )
end Go.Proofs.YtongpnolikkknaaGreatDoor
